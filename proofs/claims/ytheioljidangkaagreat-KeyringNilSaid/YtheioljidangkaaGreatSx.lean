/- A logic of symbolic states for walks: slots and heap facts as association lists; one lemma an operation; regions whose order is open by one theorem. No conditions: general lemmas. -/
import Derived.WalkKit
import Derived.Maps.AppendAt
import Derived.OrdersIn
import Derived.RangeFuncIn
import Derived.RangeFuncLeaves
import Derived.RangeFuncCalls
namespace Go.Sx
open Go Go.RowKit

/-! ### states -/
abbrev Slots := List (Nat × Value)
abbrev Heap := List (Nat × Obj)

def lk : Slots → Nat → Option Value
  | [], _ => none
  | (t, v) :: r, k => bif Nat.beq t k then some v else lk r k

theorem hao (w : World) (o : Obj) (i : Nat) (h : i < w.heap.size) : (w.alloc o).heap[i]? = w.heap[i]? := by
  show (w.heap.push o)[i]? = w.heap[i]?
  rw [Array.getElem?_push, if_neg (Nat.ne_of_lt h)]
/-! what is drawn never grows less -/
theorem ask_drawn {α : Type} : ∀ (m : Ask α) (w : World), w.drawn ≤ (w.ask m).2.drawn
  | .done a, w => by simp [World.ask]
  | .ask what range k, w => by
    simp only [World.ask]
    split
    · exact ask_drawn (k 0) w
    · exact Nat.le_of_succ_le (ask_drawn _ { w with drawn := w.drawn + 1 })
theorem sys_drawn (w : World) (c : Sys) : w.drawn ≤ (w.sys c).2.drawn := by
  have h := ask_drawn (Kernel.perform c w.os) w
  unfold World.sys
  split
  · exact Nat.le_refl _
  · rename_i e; rw [e] at h; exact h
theorem ebind {ε α β : Type} {x : Except ε α} {f : α → Except ε β} {b : β} (h : (x >>= f) = .ok b) : ∃ a, x = .ok a ∧ f a = .ok b := by
  cases x with
  | error e => cases h
  | ok a => exact ⟨a, rfl, h⟩
theorem viewStore_drawn {P : Program} {w w2 : World} {at_ : Addr} {u : TypeId} {a : Addr} {v : Value} {b : Bool} {l : List Addr} (h : w.viewStore P at_ u a v b = .ok (w2, l)) : w2.drawn = w.drawn := by
  unfold World.viewStore at h
  simp only [bind, Except.bind, MonadExcept.throw, throwThe, MonadExceptOf.throw, Pure.pure, Except.pure] at h
  repeat' (split at h)
  all_goals first | (cases h; done) | (cases h; rfl) | skip
theorem farStore_drawn {P : Program} {w w2 : World} {a : Addr} {v : Value} {b : Bool} {l : List Addr} (h : w.farStore P a v b = .ok (w2, l)) : w2.drawn = w.drawn := by
  unfold World.farStore at h
  split at h
  · split at h
    · cases h; rename_i h; exact viewStore_drawn h
    · cases h
  · cases h
theorem run_drawn {P : Program} {α : Type} (m : Sem α) : ∀ (w : World) {v : α} {w' : World}, m.run P w = .ok v w' → w.drawn ≤ w'.drawn := by
  induction m with
  | pure a => intro w v w' h; simp only [Sem.run] at h; cases h; exact Nat.le_refl _
  | load m a k ih =>
    intro w v w' h
    simp only [Sem.run] at h
    split at h
    · exact ih _ _ h
    · split at h
      · exact ih _ _ h
      · cases h
  | store m a u k ih =>
    intro w v w' h
    unfold Sem.run at h
    split at h
    all_goals (rename_i heq; cases heq)
    · cases h
    · cases h
    · split at h
      · split at h
        · cases h
        · have := ih _ h; exact this
      · split at h
        · rename_i e
          have := ih _ h
          rw [farStore_drawn e] at this; exact this
        · cases h
  | new o k ih => intro w v w' h; simp only [Sem.run] at h; have := ih _ _ h; exact this
  | shape r k ih => intro w v w' h; simp only [Sem.run] at h; exact ih _ _ h
  | freeze a n k ih => intro w v w' h; simp only [Sem.run] at h; have := ih _ h; rw [show (w.freeze a n).drawn = w.drawn by unfold World.freeze; split <;> rfl] at this; exact this
  | frozen a k ih => intro w v w' h; simp only [Sem.run] at h; exact ih _ _ h
  | getObj r k ih =>
    intro w v w' h
    simp only [Sem.run] at h
    split at h
    · cases h
    · exact ih _ _ h
    · cases h
  | setObj r o k ih =>
    intro w v w' h
    simp only [Sem.run] at h
    split at h
    · cases h
    · have := ih _ h; exact this
    · cases h
  | choose q k ih =>
    intro w v w' h
    simp only [Sem.run] at h
    split at h
    · exact ih _ _ h
    · exact Nat.le_of_succ_le (ih _ _ h)
  | sys c k ih => intro w v w' h; simp only [Sem.run] at h; exact Nat.le_trans (sys_drawn w c) (ih _ _ h)
  | program k ih => intro w v w' h; simp only [Sem.run] at h; exact ih _ _ h
  | mark x k ih => intro w v w' h; simp only [Sem.run] at h; exact ih _ h
  | halt h => intro w v w' h; simp only [Sem.run] at h; cases h
/-- only the blocks of S (and new ones) may differ -/
structure Only (S : List Nat) (w w' : World) : Prop where
  os : w'.os = w.os
  tape : w'.tape = w.tape
  output : w'.output = w.output
  size : w.heap.size ≤ w'.heap.size
  blk : ∀ b, b < w.heap.size → b ∉ S → w'.heap[b]? = w.heap[b]?
  drawn : w.drawn ≤ w'.drawn

theorem Only.refl (S : List Nat) (w : World) : Only S w w := ⟨rfl, rfl, rfl, Nat.le_refl _, fun _ _ _ => rfl, Nat.le_refl _⟩
theorem Only.trans {S S' : List Nat} {w w1 w2 : World} (h : Only S w w1) (h' : Only S' w1 w2) (hs : ∀ b ∈ S', w.heap.size ≤ b ∨ b ∈ S) : Only S w w2 :=
  ⟨h'.os.trans h.os, h'.tape.trans h.tape, h'.output.trans h.output, Nat.le_trans h.size h'.size, fun b hb hn => by
    rw [h'.blk b (Nat.lt_of_lt_of_le hb h.size) (fun hm => (hs b hm).elim (fun h1 => by omega) hn)]
    exact h.blk b hb hn, Nat.le_trans h.drawn h'.drawn⟩
theorem Only.mono {S S' : List Nat} {w w' : World} (h : Only S w w') (hs : ∀ b ∈ S, b ∈ S') : Only S' w w' :=
  ⟨h.os, h.tape, h.output, h.size, fun b hb hn => h.blk b hb (fun hm => hn (hs b hm)), h.drawn⟩
theorem Only.below {w w' : World} (h : Only [] w w') : Below w.heap.size w w' :=
  ⟨h.os, h.tape, h.output, h.size, fun b hb => h.blk b hb (by simp)⟩
theorem Only.alloc {S : List Nat} {w w' : World} (h : Only S w w') (o : Obj) : Only S w (w'.alloc o) :=
  ⟨h.os, h.tape, h.output, by simp; exact Nat.le_succ_of_le h.size, fun b hb hn => by
    rw [hao w' o b (Nat.lt_of_lt_of_le hb h.size)]; exact h.blk b hb hn, h.drawn⟩
theorem Only.drew {S : List Nat} {w w' : World} (h : Only S w w') : Only S w w'.drew := ⟨h.os, h.tape, h.output, h.size, h.blk, Nat.le_succ_of_le h.drawn⟩

def World.setBlk (w : World) (b : Nat) (o : Obj) : World := { w with heap := w.heap.setIfInBounds b o }
theorem setBlk_same (w : World) (b : Nat) (o : Obj) (h : b < w.heap.size) : (World.setBlk w b o).heap[b]? = some o := by simp [World.setBlk, h]
theorem setBlk_other (w : World) (b c : Nat) (o : Obj) (h : b ≠ c) : (World.setBlk w b o).heap[c]? = w.heap[c]? := by simp [World.setBlk, h]
theorem Only.setBlk {S : List Nat} {w w' : World} (h : Only S w w') (b : Nat) (o : Obj) (hb : w.heap.size ≤ b ∨ b ∈ S) : Only S w (World.setBlk w' b o) :=
  ⟨h.os, h.tape, h.output, by simp [World.setBlk]; exact h.size, fun c hc hn => by
    rw [setBlk_other w' b c o (fun e => by subst e; exact hb.elim (fun h1 => by omega) hn)]; exact h.blk c hc hn, h.drawn⟩

def SlOK (σ : Slots) (a : Act) : Prop := ∀ t v, lk σ t = some v → a.tmps[t]? = some v
def HpOK (η : Heap) (w : World) : Prop := ∀ b o, (b, o) ∈ η → w.heap[b]? = some o

/-- a frame's shape: how many temporaries, and the marks among the deferred calls -/
structure Fm where
  n : Nat
  dl : List Deferred
instance (k : Nat) : OfNat Fm k := ⟨⟨k, []⟩⟩
structure St (n : Fm) (w0 : World) (S : List Nat) (σ : Slots) (η : Heap) (a : Act) (w : World) : Prop where
  df : a.defers = n.dl
  sz : a.tmps.size = n.n
  sl : SlOK σ a
  hp : HpOK η w
  nd : (η.map Prod.fst).Nodup
  on : Only S w0 w

theorem HpOK.lt {η : Heap} {w : World} (h : HpOK η w) {b : Nat} {o : Obj} (hm : (b, o) ∈ η) : b < w.heap.size :=
  (Array.getElem?_eq_some_iff.1 (h b o hm)).1
theorem HpOK.mono {η η' : Heap} {w : World} (h : HpOK η w) (hs : ∀ p ∈ η', p ∈ η) : HpOK η' w := fun b o hm => h b o (hs _ hm)
theorem HpOK.alloc {η : Heap} {w : World} (h : HpOK η w) (o : Obj) : HpOK η (w.alloc o) := fun b x hm => (hao w o b (h.lt hm)).trans (h b x hm)
theorem HpOK.cons {η : Heap} {w : World} {b : Nat} {o : Obj} (h : HpOK η w) (hb : w.heap[b]? = some o) : HpOK ((b, o) :: η) w := fun c x hm => by
  rcases List.mem_cons.1 hm with e | hm
  · cases e; exact hb
  · exact h c x hm
theorem HpOK.nil (w : World) : HpOK [] w := fun _ _ h => by cases h
theorem HpOK.append {η ν : Heap} {w : World} (h1 : HpOK ν w) (h2 : HpOK η w) : HpOK (ν ++ η) w := fun b o hm => by
  rcases List.mem_append.1 hm with h | h
  · exact h1 b o h
  · exact h2 b o h
theorem HpOK.not_mem {η : Heap} {w : World} (h : HpOK η w) {b : Nat} (hb : w.heap.size ≤ b) : b ∉ η.map Prod.fst := fun hm => by
  obtain ⟨⟨c, o⟩, hc, rfl⟩ := List.mem_map.1 hm
  have := h.lt hc
  simp at hb
  omega

theorem lk_mem {σ : Slots} {t : Nat} {v : Value} (h : lk σ t = some v) : (t, v) ∈ σ := by
  induction σ with
  | nil => simp [lk] at h
  | cons p r ih =>
    obtain ⟨k, u⟩ := p
    simp only [lk] at h
    cases hb : Nat.beq k t with
    | true => rw [hb] at h; simp at h; subst h; have := Nat.eq_of_beq_eq_true hb; subst this; simp
    | false => rw [hb] at h; simp at h; exact List.mem_cons_of_mem _ (ih h)

theorem SlOK.put {σ : Slots} {a : Act} {d : Nat} (h : SlOK σ a) (v : Value) (hd : d < a.tmps.size) : SlOK ((d, v) :: σ) (a.put (some d) v) := by
  intro t u hu
  simp only [lk] at hu
  simp only [Act.put]
  cases hb : Nat.beq d t with
  | true =>
    rw [hb] at hu; simp at hu; subst hu
    have := Nat.eq_of_beq_eq_true hb; subst this
    simp [hd]
  | false =>
    rw [hb] at hu; simp at hu
    have hne : d ≠ t := Nat.ne_of_beq_eq_false hb
    rw [Array.getElem?_setIfInBounds_ne hne]
    exact h t u hu

section
variable {n : Fm} {w0 : World} {S : List Nat} {σ : Slots} {η : Heap} {a : Act} {w : World}

theorem St.put (h : St n w0 S σ η a w) {d : Nat} (v : Value) (hd : Nat.blt d n.n = true) : St n w0 S ((d, v) :: σ) η (a.put (some d) v) w :=
  ⟨h.df, by simp [Act.put, h.sz], h.sl.put v (by rw [h.sz]; exact by simpa using hd), h.hp, h.nd, h.on⟩
theorem St.putNone (h : St n w0 S σ η a w) (v : Value) : St n w0 S σ η (a.put none v) w := h
theorem St.alloc (h : St n w0 S σ η a w) (o : Obj) : St n w0 S σ ((w.heap.size, o) :: η) a (w.alloc o) :=
  ⟨h.df, h.sz, h.sl, (h.hp.alloc o).cons (heap_alloc_new w o), List.nodup_cons.2 ⟨h.hp.not_mem (Nat.le_refl _), h.nd⟩, h.on.alloc o⟩
theorem St.drew (h : St n w0 S σ η a w) : St n w0 S σ η a w.drew := ⟨h.df, h.sz, h.sl, h.hp, h.nd, h.on.drew⟩

/-- an operand's value -/
def ev (σ : Slots) : Operand → Option Value
  | .tmp t => lk σ t
  | .const v => some v
  | .global g => some (.pointer (some ⟨g, 0, none⟩))
  | .func f => some (.func (.func f) #[] #[])
theorem SlOK.ev {σ : Slots} {a : Act} (h : SlOK σ a) {x : Operand} {v : Value} (hx : Sx.ev σ x = some v) : a.eval x = v := by
  cases x with
  | tmp t => have := h t v hx; simp [Act.eval, this]
  | const u => simpa [Sx.ev, Act.eval] using hx
  | global g => simpa [Sx.ev, Act.eval] using hx
  | func f => simpa [Sx.ev, Act.eval] using hx
def evs (σ : Slots) : List Operand → Option (List Value)
  | [] => some []
  | x :: r => match ev σ x with
    | some v => match evs σ r with
      | some vs => some (v :: vs)
      | none => none
    | none => none
theorem SlOK.evs {σ : Slots} {a : Act} (h : SlOK σ a) : ∀ {xs : List Operand} {vs : List Value}, Sx.evs σ xs = some vs → xs.map a.eval = vs
  | [], vs, hx => by simp [Sx.evs] at hx; simp [hx]
  | x :: r, vs, hx => by
    simp only [Sx.evs] at hx
    split at hx
    · rename_i v hv
      split at hx
      · rename_i us hus
        cases hx
        simp [h.ev hv, h.evs hus]
      · cases hx
    · cases hx

/-! ### operations of a region -/
def opAt : List Oper → Nat → Option Oper
  | [], _ => none
  | o :: _, 0 => some o
  | _ :: r, i + 1 => opAt r i
theorem opAt_eq : ∀ (l : List Oper) (i : Nat), opAt l i = l.toArray[i]?
  | [], i => by simp [opAt]
  | o :: r, 0 => by simp [opAt]
  | o :: r, i + 1 => by have := opAt_eq r i; simp at this; simp [opAt, this]

/-- does the guard let the operation run? none: not known -/
def gd (l : List Oper) (σ : Slots) : Option (Nat × Bool) → Option Bool
  | none => some true
  | some (j, want) => match (opAt l j) with
    | some o => match o.dst with
      | some t => match lk σ t with
        | some (.bool b) => some (b == want)
        | some (.tuple _) => some false
        | _ => none
      | none => none
    | none => none
theorem gd_wanted {l : List Oper} {σ : Slots} {a : Act} (h : SlOK σ a) {o : Oper} {b : Bool} (hg : gd l σ o.guard = some b) : Region.wanted o (yielded l.toArray a.tmps) = b := by
  unfold Region.wanted
  cases hgu : o.guard with
  | none => rw [hgu] at hg; simpa [gd] using hg
  | some p =>
    obtain ⟨j, want⟩ := p
    rw [hgu] at hg
    simp only [gd] at hg
    split at hg
    · rename_i o' ho'
      split at hg
      · rename_i t ht
        have hy : ∀ v, lk σ t = some v → ((l.toArray[j]?).bind (·.dst)).bind (a.tmps[·]?) = some v := fun v hv => by
          rw [← opAt_eq, ho']; simp only [Option.bind_some, ht]; exact h t v hv
        split at hg
        · rename_i x hx
          have := hy _ hx
          simp only [yielded, this]
          cases hg
          cases x <;> cases want <;> rfl
        · rename_i x hx
          have := hy _ hx
          simp only [yielded, this]
          cases hg
          rfl
        · cases hg
      · cases hg
    · cases hg

def Rd (P : Program) (σ : Slots) (φ : Heap) (o : Oper) (v : Value) : Prop := ∀ a w, SlOK σ a → HpOK φ w → (execOp a.eval o).run P w = .ok (.value v) w

inductive Kd | r | x (late : Bool) | b (j : Nat)
  deriving DecidableEq
def Kd.isR : Kd → Bool | .r => true | _ => false
def Kd.isL : Kd → Bool | .x true => true | _ => false

def Qf : Exit → Act → World → Prop := fun _ _ _ => False

/-- an operation that only reads, at any world in which Π holds -/
def YP (P : Program) (ops : Array Oper) (Pi : World → Prop) (o : Oper) (v : Value) (a : Act) : Prop :=
  (Region.wanted o (yielded ops a.tmps) = true ∧ ∀ w, Pi w → (execOp a.eval o).run P w = .ok (.value v) w) ∨ (Region.wanted o (yielded ops a.tmps) = false ∧ v = undef)

/-- everything is let in; r: the loop whose round this is -/
def Fr (κr : Option Nat) : Fence := { Fence.wide with round := κr }
/-- what follows from one operation's run -/
def OW (κr : Option Nat) (P : Program) (o : Oper) (a : Act) (w : World) (next : Act → World → Prop) (Q : Exit → Act → World → Prop) : Prop := o.uponIn (Fr κr) 1 P a next Q ((execOp a.eval o).run P w)
def wpO (κr : Option Nat) (P : Program) (ops : Array Oper) (Q : Exit → Act → World → Prop) (i : Nat) (K : Act → World → Prop) (a : Act) (w : World) : Prop :=
  match ops[i]? with
  | none => K a w
  | some o => if Region.wanted o (yielded ops a.tmps) then OW κr P o a w K Q else K (a.put o.dst undef) w

def wpSeq (κr : Option Nat) (P : Program) (ops : Array Oper) (Pi : World → Prop) (N : Act → World → Prop) : List (Nat × Kd) → Act → World → Prop
  | [], a, w => N a w
  | (i, .r) :: q, a, w => ∃ o v, ops[i]? = some o ∧ YP P ops Pi o v a ∧ wpSeq κr P ops Pi N q (a.put o.dst v) w
  | (i, .x true) :: q, a, w => wpO κr P ops Qf i (wpSeq κr P ops Pi N q) a w
  | (i, .x false) :: q, a, w => wpO κr P ops Qf i (fun a' w' => Pi w' ∧ wpSeq κr P ops Pi N q a' w') a w
  | (i, .b j) :: q, a, w => wpO κr P ops Qf i (fun a' w' => Pi w' ∧ wpO κr P ops Qf j (fun a' w' => Pi w' ∧ wpSeq κr P ops Pi N q a' w') a' w') a w ∧
    wpO κr P ops Qf j (fun a' w' => Pi w' ∧ wpO κr P ops Qf i (fun a' w' => Pi w' ∧ wpSeq κr P ops Pi N q a' w') a' w') a w
/-- how many operations an order lists -/
def qlen : List (Nat × Kd) → Nat
  | [] => 0
  | (_, .b _) :: q => qlen q + 2
  | (_, .r) :: q => qlen q + 1
  | (_, .x _) :: q => qlen q + 1

end

/-! ### the order of a region that draws -/
section
variable {κr : Option Nat} {P : Program} {ops : Array Oper} {md : Region.Mode}
theorem callsIn_of {n : Nat} {f : FuncId} {args : Array Value} {w : World} {R : Ending → World → Prop} (h : Calls P f args w R) : CallsIn (Fr κr) n P f args w R := by
  cases κr with
  | none => exact callsIn_wide.2 h
  | some l => exact CallsIn.inRound l (callsIn_wide.2 h)
theorem OW_mono {o : Oper} {a : Act} {w : World} {K K' : Act → World → Prop} {Q : Exit → Act → World → Prop} (h : ∀ a w, K a w → K' a w) (hh : OW κr P o a w K Q) : OW κr P o a w K' Q := by
  unfold OW at *
  generalize (execOp a.eval o).run P w = z at *
  cases z with
  | ok x w' =>
    cases x <;> simp only [Oper.uponIn] at hh ⊢ <;> first
      | exact h _ _ hh
      | exact ⟨hh.1, CallsIn.mono hh.2 fun e w'' he => by cases e <;> first | exact h _ _ he | exact he⟩
      | exact ⟨hh.1, RowsIn.mono hh.2 fun _ _ he => h _ _ he⟩
      | exact ⟨hh.1, RoundIn.mono hh.2 fun e w'' he => by cases e <;> first | exact h _ _ he | exact he⟩
  | halt x w' => cases x <;> simp only [Oper.uponIn] at hh ⊢ <;> exact hh
theorem OW_in {o : Oper} {a : Act} {w : World} {K : Act → World → Prop} {Q : Exit → Act → World → Prop} (hd : ∀ c, o.op ≠ .defer c) (h : OW κr P o a w K Qf) : o.wpIn (Fr κr) 1 P a w K Q := by
  refine ⟨fun _ _ => trivial, ?_⟩
  rw [Oper.semAt_eq _ _ _ hd]
  unfold OW at h
  generalize (execOp a.eval o).run P w = z at *
  cases z with
  | ok x w' =>
    cases x <;> simp only [Oper.uponIn] at h ⊢ <;> first
      | exact h
      | exact ⟨h.1, CallsIn.mono h.2 fun e w'' he => by cases e <;> first | exact he | exact he.elim | (obtain ⟨_, _, hx⟩ := he; exact hx.elim)⟩
      | exact ⟨h.1, RoundIn.mono h.2 fun e w'' he => by cases e <;> first | exact he | exact he.elim | (obtain ⟨_, _, hx⟩ := he; exact hx.elim)⟩
  | halt x w' => cases x <;> simp only [Oper.uponIn] at h ⊢ <;> first | exact h | exact h.elim
/-- no operation defers a call -/
def noDefer (ops : Array Oper) : Bool := ops.all fun o => match o.op with | .defer _ => false | _ => true
theorem noDefer_spec (h : noDefer ops = true) {i : Nat} {o : Oper} (ho : ops[i]? = some o) : ∀ c, o.op ≠ .defer c := fun c hc => by
  have h1 := Array.all_eq_true'.1 h o (Array.mem_of_getElem? ho)
  rw [hc] at h1; cases h1
theorem wpO_mono {i : Nat} {a : Act} {w : World} {K K' : Act → World → Prop} {Q : Exit → Act → World → Prop} (h : ∀ a w, K a w → K' a w) (hh : wpO κr P ops Q i K a w) : wpO κr P ops Q i K' a w := by
  unfold wpO at *
  split
  · exact h _ _ (by simpa [*] using hh)
  · rename_i o ho
    simp only [ho] at hh
    split
    · rename_i hw; simp only [hw, if_true] at hh; exact OW_mono h hh
    · rename_i hw; simp only [hw] at hh; exact h _ _ hh
theorem wpO_in (hd : noDefer ops = true) {i : Nat} {a : Act} {w : World} {K : Act → World → Prop} {Q : Exit → Act → World → Prop} (h : wpO κr P ops Qf i K a w) : wpOpIn (Fr κr) 1 P ops Q i K a w := by
  unfold wpO at h
  unfold wpOpIn
  split
  · simpa [*] using h
  · rename_i o ho
    simp only [ho] at h
    split
    · rename_i hw; simp only [hw, if_true] at h; exact OW_in (noDefer_spec hd ho) h
    · rename_i hw; simp only [hw] at h; exact ⟨fun _ _ => trivial, h⟩

def wpR (κr : Option Nat) (P : Program) (md : Region.Mode) (ops : Array Oper) (Pi : World → Prop) (lt : Nat → Bool) (N : Act → World → Prop) : Nat → Array Bool → Act → World → Prop
  | 0, listed, a, w => Region.ready md ops listed = [] ∧ N a w
  | f + 1, listed, a, w => (Region.ready md ops listed = [] → N a w) ∧
    ∀ i ∈ Region.ready md ops listed, wpO κr P ops Qf i (fun a' w' => (lt i = false → Pi w') ∧ wpR κr P md ops Pi lt N f (listed.setIfInBounds i true) a' w') a w

theorem wpR_any (hd : noDefer ops = true) {Pi : World → Prop} {lt : Nat → Bool} {Q : Exit → Act → World → Prop} : ∀ (f : Nat) (listed : Array Bool) (a : Act) (w : World),
    wpR κr P md ops Pi lt (fun a w => Q .normal a w) f listed a w → wpAnyIn (Fr κr) 1 P md ops Q f listed a w
  | 0, _, _, _, h => h
  | f + 1, _, _, _, h => ⟨h.1, fun i hi => wpOpIn_mono (fun a' w' h' => wpR_any hd f _ a' w' h'.2) (wpO_in hd (h.2 i hi))⟩

theorem YP.put {Pi : World → Prop} {oi oj : Oper} {v : Value} {a : Act} (hs : ∀ cs b, oi.op ≠ .select cs b) (h3 : ∀ d, oj.dst = some d → d ∉ oi.looksAt ops) (hy : YP P ops Pi oi v a) (u : Value) :
    YP P ops Pi oi v (a.put oj.dst u) := by
  have e := execOp_put oi hs a oj.dst u h3
  have e2 := wanted_put oi a oj.dst u h3
  unfold YP at *
  rw [e, e2]
  exact hy

/-- operation j in the frame with i's result is operation j without it, i's result put later -/
theorem wpOp_swap {j : Nat} {oi oj : Oper} {v : Value} {Pi : World → Prop} (hj : ops[j]? = some oj) (hap : oi.apart ops oj = true)
    (hsi : ∀ cs b, oi.op ≠ .select cs b) (hsj : ∀ cs b, oj.op ≠ .select cs b) {K : Act → World → Prop} {a : Act} {w : World}
    (hy : YP P ops Pi oi v a) (h : wpO κr P ops Qf j K (a.put oi.dst v) w) :
    wpO κr P ops Qf j (fun a' w' => YP P ops Pi oi v a' ∧ K (a'.put oi.dst v) w') a w := by
  obtain ⟨h1, h2, h3⟩ := Oper.apart_spec hap
  have keepD : ∀ d, YP P ops Pi oi v { a with defers := d :: a.defers } := fun d => hy
  have keep : ∀ (a : Act), YP P ops Pi oi v a → ∀ u, YP P ops Pi oi v (a.put oj.dst u) := fun a hy u => hy.put hsi h3 u
  unfold wpO at *
  simp only [hj] at *
  rw [wanted_put oj a oi.dst v h1] at h
  split
  · rename_i hw
    simp only [hw, if_true] at h
    unfold OW at *
    rw [execOp_put oj hsj a oi.dst v h1] at h
    generalize (execOp a.eval oj).run P w = r at *
    cases r with
    | ok x w' =>
      cases x <;> simp only [Oper.uponIn] at h ⊢
      case value u => exact ⟨keep a hy u, by rw [← Act.put_comm a v u h2]; exact h⟩
      case skip => exact ⟨keep a hy _, by rw [← Act.put_comm a v undef h2]; exact h⟩
      case defer d => exact ⟨keep _ (keepD d) _, by rw [← Act.put_comm _ v undef h2, ← Act.put_defers]; exact h⟩
      case enter f args =>
        refine ⟨h.1, CallsIn.mono h.2 fun e w'' he => ?_⟩
        cases e with
        | returned u => exact ⟨keep a hy u, by rw [← Act.put_comm a v u h2]; exact he⟩
        | panicked c => exact he.elim
        | outgrown => obtain ⟨_, _, hx⟩ := he; exact hx.elim
      case row row args => exact ⟨h.1, RowsIn.mono h.2 fun u w'' he => ⟨keep a hy u, by rw [← Act.put_comm a v u h2]; exact he⟩⟩
      case round =>
        refine ⟨h.1, RoundIn.mono h.2 fun e w'' he => ?_⟩
        cases e with
        | returned u => exact ⟨keep a hy u, by rw [← Act.put_comm a v u h2]; exact he⟩
        | panicked c => exact he.elim
        | outgrown => obtain ⟨_, _, hx⟩ := he; exact hx.elim
    | halt x w' => cases x <;> simp only [Oper.uponIn] at h ⊢ <;> exact h.elim
  · rename_i hw
    simp only [hw] at h
    exact ⟨keep a hy _, by rw [← Act.put_comm a v undef h2]; exact h⟩

def waits (md : Region.Mode) (ops : Array Oper) (j i : Nat) : Bool :=
  match ops[j]? with
  | some oj => oj.after.any fun e => Region.binds md e && e.on == i
  | none => false

/-- .. or through others -/
def reach (md : Region.Mode) (ops : Array Oper) : Nat → Nat → Nat → Bool
  | 0, j, i => waits md ops j i
  | f + 1, j, i => waits md ops j i || (match ops[j]? with
    | some oj => oj.after.any fun e => Region.binds md e && reach md ops f e.on i
    | none => false)
def Closed (md : Region.Mode) (ops : Array Oper) (listed : Array Bool) : Prop := ∀ k ok, ops[k]? = some ok → listed.getD k false = true → ∀ e ∈ ok.after, Region.binds md e = true → listed.getD e.on false = true
theorem reach_listed {listed : Array Bool} (hc : Closed md ops listed) : ∀ (f j i : Nat), (∀ oj, ops[j]? = some oj → ∀ e ∈ oj.after, Region.binds md e = true → listed.getD e.on false = true) → reach md ops f j i = true → listed.getD i false = true
  | 0, j, i, ha, h => by
    simp only [reach, waits] at h
    split at h
    · rename_i oj hoj
      obtain ⟨e, he, hb⟩ := Array.any_eq_true'.1 h
      simp only [Bool.and_eq_true, beq_iff_eq] at hb
      rw [← hb.2]; exact ha oj hoj e he hb.1
    · cases h
  | f + 1, j, i, ha, h => by
    simp only [reach, Bool.or_eq_true] at h
    rcases h with h | h
    · exact reach_listed hc 0 j i ha h
    · split at h
      · rename_i oj hoj
        obtain ⟨e, he, hb⟩ := Array.any_eq_true'.1 h
        simp only [Bool.and_eq_true] at hb
        exact reach_listed hc f e.on i (fun ok hok => hc e.on ok hok (ha oj hoj e he hb.1)) hb.2
      · cases h
theorem getD_set_mono (listed : Array Bool) (i x : Nat) (h : listed.getD x false = true) : (listed.setIfInBounds i true).getD x false = true := by
  by_cases hix : i = x
  · subst hix
    rcases Nat.lt_or_ge i listed.size with hl | hl
    · simp [Array.getD_eq_getD_getElem?, hl]
    · simp [Array.getD_eq_getD_getElem?, Array.getElem?_eq_none hl] at h
  · rw [getD_set_ne false hix]; exact h
theorem Closed.set {listed : Array Bool} (hc : Closed md ops listed) {i : Nat} (hr : i ∈ Region.ready md ops listed) : Closed md ops (listed.setIfInBounds i true) := fun k ok hok hk e he hb => by
  obtain ⟨_, oi, hoi, hall⟩ := mem_ready.1 hr
  by_cases hik : i = k
  · subst hik
    rw [hoi] at hok; cases hok
    exact getD_set_mono _ _ _ (hall e he hb)
  · rw [getD_set_ne false hik] at hk
    exact getD_set_mono _ _ _ (hc k ok hok hk e he hb)

theorem wpR_first {Pi : World → Prop} {lt : Nat → Bool} {N : Act → World → Prop} {i : Nat} {oi : Oper} {v : Value} (hi : ops[i]? = some oi)
    (hsel : ∀ (j : Nat) (o : Oper) cs b, ops[j]? = some o → o.op ≠ .select cs b) :
    ∀ (f : Nat) (listed : Array Bool) (a : Act) (w : World), Pi w → Closed md ops listed →
      (∀ j oj, ops[j]? = some oj → j ≠ i → listed.getD j true = false → (∀ e ∈ oj.after, Region.binds md e = true → e.on ≠ i) → oi.apart ops oj = true) →
      (∀ j, j ≠ i → listed.getD j true = false → lt j = true → reach md ops 8 j i = true) →
      i ∈ Region.ready md ops listed → YP P ops Pi oi v a →
      wpR κr P md ops Pi lt N f (listed.setIfInBounds i true) (a.put oi.dst v) w → wpR κr P md ops Pi lt N (f + 1) listed a w := by
  have self : ∀ (K : Act → World → Prop) (a : Act) (w : World), Pi w → YP P ops Pi oi v a → K (a.put oi.dst v) w → wpO κr P ops Qf i K a w := fun K a w hP hy hk => by
    unfold wpO
    simp only [hi]
    rcases hy with ⟨hw, hv⟩ | ⟨hw, rfl⟩
    · simp only [hw, if_true, OW, hv w hP, Oper.uponIn]; exact hk
    · simp only [hw, Bool.false_eq_true, if_false]; exact hk
  intro f
  induction f with
  | zero =>
    intro listed a w hP _ _ _ hr hy H
    refine ⟨fun h => (by rw [h] at hr; cases hr), fun j hj => ?_⟩
    by_cases hji : j = i
    · subst hji; exact self _ a w hP hy ⟨fun _ => hP, H⟩
    · have := ready_mono hj hji
      rw [H.1] at this
      cases this
  | succ f ih =>
    intro listed a w hP hcl hfree hlate hr hy H
    refine ⟨fun h => (by rw [h] at hr; cases hr), fun j hj => ?_⟩
    by_cases hji : j = i
    · subst hji; exact self _ a w hP hy ⟨fun _ => hP, H⟩
    · have h1 := H.2 j (ready_mono hj hji)
      obtain ⟨hjun, oj, hoj, hall⟩ := mem_ready.1 hj
      have hun0 := (mem_ready.1 hr).1
      have hfalse : listed.getD i false = true → False := fun h1 => by
        rcases Nat.lt_or_ge i listed.size with h' | h'
        · simp [h'] at hun0 h1; rw [hun0] at h1; cases h1
        · simp [Array.getElem?_eq_none h'] at h1
      have hnot : ∀ e ∈ oj.after, Region.binds md e = true → e.on ≠ i := fun e he hb heq => hfalse (by have := hall e he hb; rwa [heq] at this)
      have hlt : lt j = false := by
        cases hl : lt j with
        | false => rfl
        | true =>
          exact (hfalse (reach_listed hcl 8 j i (fun ok hok => by rw [hoj] at hok; cases hok; exact hall) (hlate j hji hjun hl))).elim
      have h2 := wpOp_swap hoj (hfree j oj hoj hji hjun hnot) (fun cs b => hsel i oi cs b hi) (fun cs b => hsel j oj cs b hoj) hy h1
      have hun' : ∀ k, (listed.setIfInBounds j true).getD k true = false → listed.getD k true = false := fun k hun => by
        by_cases hjk : j = k
        · subst hjk; exact hjun
        · rw [getD_set_ne true hjk] at hun; exact hun
      refine wpO_mono (fun a' w' h3 => ⟨h3.2.1, ih (listed.setIfInBounds j true) a' w' (h3.2.1 hlt) (hcl.set (ready_mono hj hji |> fun _ => hj))
        (fun k ok hk hki hun hno => hfree k ok hk hki (hun' k hun) hno) (fun k hki hun hl => hlate k hki (hun' k hun) hl) (ready_mono hr (Ne.symm hji)) h3.1 ?_⟩) h2
      rw [Array.setIfInBounds_comm _ _ hji]
      exact h3.2.2

def ltOf (q : List (Nat × Kd)) (j : Nat) : Bool := q.any fun p => p.1 == j && p.2.isL
def hasR (q : List (Nat × Kd)) : Bool := q.any fun p => p.2.isR
/-- the kernel's check of an order -/
def okQ (md : Region.Mode) (ops : Array Oper) (lt : Nat → Bool) : List (Nat × Kd) → Array Bool → Bool
  | [], listed => (Region.ready md ops listed).isEmpty
  | (i, .r) :: q, listed => (Region.ready md ops listed).contains i && Region.free md ops listed i &&
      ((List.range ops.size).all fun j => j == i || listed.getD j true || !lt j || reach md ops 8 j i) && okQ md ops lt q (listed.setIfInBounds i true)
  | (i, .x true) :: q, listed => (Region.ready md ops listed == [i]) && lt i && !hasR q && okQ md ops lt q (listed.setIfInBounds i true)
  | (i, .x false) :: q, listed => (Region.ready md ops listed == [i]) && okQ md ops lt q (listed.setIfInBounds i true)
  | (i, .b j) :: q, listed => (Region.ready md ops listed == [i, j]) && !(i == j) && (Region.ready md ops (listed.setIfInBounds i true) == [j]) && (Region.ready md ops (listed.setIfInBounds j true) == [i]) && okQ md ops lt q ((listed.setIfInBounds i true).setIfInBounds j true)

theorem seq_R {Pi : World → Prop} {lt : Nat → Bool} {N : Act → World → Prop} (hsel : ∀ (j : Nat) (o : Oper) cs b, ops[j]? = some o → o.op ≠ .select cs b)
    (hlt0 : ∀ j, lt j = true → j < ops.size) :
    ∀ (q : List (Nat × Kd)) (listed : Array Bool) (a : Act) (w : World), okQ md ops lt q listed = true → Closed md ops listed → (hasR q = true → Pi w) → wpSeq κr P ops Pi N q a w → wpR κr P md ops Pi lt N (qlen q) listed a w
  | [], listed, a, w, hq, _, _, h => ⟨by simpa [okQ] using hq, h⟩
  | (i, .r) :: q, listed, a, w, hq, hcl, hP, h => by
    obtain ⟨oi, v, hi, hy, h⟩ := h
    simp only [okQ, Bool.and_eq_true] at hq
    obtain ⟨⟨⟨hr, hf⟩, hl⟩, hq⟩ := hq
    have hP' : Pi w := hP (by simp [hasR, Kd.isR])
    refine wpR_first hi hsel (qlen q) listed a w hP' hcl (fun j oj hj hne hun hno => Region.free_spec hi hf j oj hj hne hun hno) (fun j hne hun hlj => ?_) (by simpa using hr) hy
      (seq_R hsel hlt0 q _ _ w hq (hcl.set (by simpa using hr)) (fun _ => hP') h)
    have := List.all_eq_true.1 hl j (List.mem_range.2 (hlt0 j hlj))
    simpa [hne, hun, hlj] using this
  | (i, .x true) :: q, listed, a, w, hq, hcl, hP, h => by
    simp only [okQ, Bool.and_eq_true, beq_iff_eq] at hq
    obtain ⟨⟨⟨hr, hlt⟩, hnr⟩, hq⟩ := hq
    refine ⟨fun h0 => (by rw [hr] at h0; cases h0), fun j hj => ?_⟩
    rw [hr] at hj
    have hji : j = i := by simpa using hj
    subst hji
    exact wpO_mono (fun a' w' h' => ⟨fun h0 => (by rw [hlt] at h0; cases h0), seq_R hsel hlt0 q _ a' w' hq (hcl.set (by rw [hr]; simp)) (fun h0 => by simp [h0] at hnr) h'⟩) h
  | (i, .x false) :: q, listed, a, w, hq, hcl, hP, h => by
    simp only [okQ, Bool.and_eq_true, beq_iff_eq] at hq
    obtain ⟨hr, hq⟩ := hq
    refine ⟨fun h0 => (by rw [hr] at h0; cases h0), fun j hj => ?_⟩
    rw [hr] at hj
    have hji : j = i := by simpa using hj
    subst hji
    exact wpO_mono (fun a' w' h' => ⟨fun _ => h'.1, seq_R hsel hlt0 q _ a' w' hq (hcl.set (by rw [hr]; simp)) (fun _ => h'.1) h'.2⟩) h
  | (i, .b j) :: q, listed, a, w, hq, hcl, hP, h => by
    simp only [okQ, Bool.and_eq_true, beq_iff_eq, Bool.not_eq_true', beq_eq_false_iff_ne] at hq
    obtain ⟨⟨⟨⟨hr, hij⟩, hri⟩, hrj⟩, hq⟩ := hq
    have hq' : okQ md ops lt q ((listed.setIfInBounds j true).setIfInBounds i true) = true := by rw [Array.setIfInBounds_comm _ _ (Ne.symm hij)]; exact hq
    refine ⟨fun h0 => (by rw [hr] at h0; cases h0), fun k hk => ?_⟩
    have hci := hcl.set (i := i) (by rw [hr]; simp)
    have hcj := hcl.set (i := j) (by rw [hr]; simp)
    rw [hr] at hk
    simp only [List.mem_cons, List.not_mem_nil, or_false] at hk
    rcases hk with rfl | rfl
    · refine wpO_mono (fun a' w' h' => ⟨fun _ => h'.1, fun h0 => (by rw [hri] at h0; cases h0), fun k' hk' => ?_⟩) h.1
      rw [hri] at hk'
      have hkj : k' = j := by simpa using hk'
      subst hkj
      exact wpO_mono (fun a' w' h' => ⟨fun _ => h'.1, seq_R hsel hlt0 q _ a' w' hq (hci.set (by rw [hri]; simp)) (fun _ => h'.1) h'.2⟩) h'.2
    · refine wpO_mono (fun a' w' h' => ⟨fun _ => h'.1, fun h0 => (by rw [hrj] at h0; cases h0), fun k' hk' => ?_⟩) h.2
      rw [hrj] at hk'
      have hkj : k' = i := by simpa using hk'
      subst hkj
      exact wpO_mono (fun a' w' h' => ⟨fun _ => h'.1, seq_R hsel hlt0 q _ a' w' hq' (hcj.set (by rw [hrj]; simp)) (fun _ => h'.1) h'.2⟩) h'.2

def okD (ops : Array Oper) (q : List (Nat × Kd)) : Bool :=
  Region.noSelect ops && q.all (fun p => decide (p.1 < ops.size)) && (qlen q == ops.size) && noDefer ops && okQ .any ops (ltOf q) q (Array.replicate ops.size false)

theorem wp_region_drawn {Pi : World → Prop} {Q : Exit → Act → World → Prop} {id : Nat} {a : Act} {w : World} {q : List (Nat × Kd)} (hm : P.follows .mixedOrders = true)
    (hq : okD ops q = true) (hP : Pi w.drew) (h : wpSeq κr P ops Pi (fun a w => Q .normal a w) q a w.drew) : (Code.region id ops true).wpIn (Fr κr) 1 P Q a w := by
  simp only [okD, Bool.and_eq_true, beq_iff_eq] at hq
  obtain ⟨⟨⟨⟨hs, hb⟩, hlen⟩, hnd⟩, hq⟩ := hq
  refine wpIn_region_any hm ?_
  rw [← hlen]
  rw [← hlen] at hq
  refine wpR_any hnd _ _ a _ (seq_R (Region.noSelect_spec hs) (fun j hj => ?_) q _ a _ hq (fun k ok _ hk => absurd hk (by simp [Array.getD_eq_getD_getElem?, Array.getElem?_replicate]; split <;> simp)) (fun _ => hP) h)
  simp only [ltOf, List.any_eq_true, Bool.and_eq_true, beq_iff_eq] at hj
  obtain ⟨p, hp, rfl, _⟩ := hj
  simpa using List.all_eq_true.1 hb p hp

theorem seq_ops (hd : noDefer ops = true) {Pi : World → Prop} {Q : Exit → Act → World → Prop} : ∀ (q : List (Nat × Kd)) (a : Act) (w : World), q.all (fun p => p.2.isL) = true →
    wpSeq κr P ops Pi (fun a w => Q .normal a w) q a w → wpOpsIn (Fr κr) 1 P ops Q (q.map Prod.fst) a w
  | [], _, _, _, h => h
  | (i, .r) :: q, _, _, hq, _ => by simp [Kd.isL] at hq
  | (i, .x false) :: q, _, _, hq, _ => by simp [Kd.isL] at hq
  | (i, .b _) :: q, _, _, hq, _ => by simp [Kd.isL] at hq
  | (i, .x true) :: q, a, w, hq, h => by
    rw [List.map_cons, wpOpsIn_cons]
    exact wpOpIn_mono (fun a' w' h' => seq_ops hd q a' w' (by simp [Kd.isL] at hq ⊢; exact hq) h') (wpO_in hd h)

def okP (ops : Array Oper) (q : List (Nat × Kd)) : Bool := (q.map Prod.fst == List.range ops.size) && q.all (fun p => p.2.isL) && noDefer ops
theorem wp_region_plain {Pi : World → Prop} {Q : Exit → Act → World → Prop} {id : Nat} {a : Act} {w : World} {q : List (Nat × Kd)} (hq : okP ops q = true)
    (h : wpSeq κr P ops Pi (fun a w => Q .normal a w) q a w) : (Code.region id ops false).wpIn (Fr κr) 1 P Q a w := by
  simp only [okP, Bool.and_eq_true, beq_iff_eq] at hq
  refine wpIn_region ?_
  rw [← hq.1.1]
  exact seq_ops hq.2 q a w hq.1.2 h
end

/-! ### orders that branch -/
inductive Od where
  | seq (q : List (Nat × Kd))
  | r (i : Nat) (t : Od)
  | x (i : Nat) (t : Od)
  | b (i j : Nat) (t1 t2 : Od)
  | b3 (i j k : Nat) (t1 t2 t3 : Od)
  | b4 (i j k m : Nat) (t1 t2 t3 t4 : Od)
def Od.len : Od → Nat
  | .seq q => qlen q
  | .r _ t => t.len + 1
  | .x _ t => t.len + 1
  | .b _ _ t _ => t.len + 1
  | .b3 _ _ _ t _ _ => t.len + 1
  | .b4 _ _ _ _ t _ _ _ => t.len + 1
def Od.lt : Od → Nat → Bool
  | .seq q, j => ltOf q j
  | .r _ t, j => t.lt j
  | .x _ t, j => t.lt j
  | .b _ _ t1 t2, j => t1.lt j || t2.lt j
  | .b3 _ _ _ t1 t2 t3, j => t1.lt j || t2.lt j || t3.lt j
  | .b4 _ _ _ _ t1 t2 t3 t4, j => t1.lt j || t2.lt j || t3.lt j || t4.lt j
section
variable {κr : Option Nat} {P : Program} {ops : Array Oper} {md : Region.Mode}
def wpOd (κr : Option Nat) (P : Program) (ops : Array Oper) (Pi : World → Prop) (N : Act → World → Prop) : Od → Act → World → Prop
  | .seq q => wpSeq κr P ops Pi N q
  | .r i t => wpSeq κr P ops Pi (wpOd κr P ops Pi N t) [(i, .r)]
  | .x i t => wpSeq κr P ops Pi (wpOd κr P ops Pi N t) [(i, .x false)]
  | .b i j t1 t2 => fun a w => wpSeq κr P ops Pi (wpOd κr P ops Pi N t1) [(i, .x false)] a w ∧ wpSeq κr P ops Pi (wpOd κr P ops Pi N t2) [(j, .x false)] a w
  | .b3 i j k t1 t2 t3 => fun a w => wpSeq κr P ops Pi (wpOd κr P ops Pi N t1) [(i, .x false)] a w ∧ wpSeq κr P ops Pi (wpOd κr P ops Pi N t2) [(j, .x false)] a w ∧ wpSeq κr P ops Pi (wpOd κr P ops Pi N t3) [(k, .x false)] a w
  | .b4 i j k m t1 t2 t3 t4 => fun a w => wpSeq κr P ops Pi (wpOd κr P ops Pi N t1) [(i, .x false)] a w ∧ wpSeq κr P ops Pi (wpOd κr P ops Pi N t2) [(j, .x false)] a w ∧ wpSeq κr P ops Pi (wpOd κr P ops Pi N t3) [(k, .x false)] a w ∧ wpSeq κr P ops Pi (wpOd κr P ops Pi N t4) [(m, .x false)] a w
def okOd (md : Region.Mode) (ops : Array Oper) (lt : Nat → Bool) : Od → Array Bool → Bool
  | .seq q, listed => okQ md ops lt q listed
  | .r i t, listed => (Region.ready md ops listed).contains i && Region.free md ops listed i &&
      ((List.range ops.size).all fun j => j == i || listed.getD j true || !lt j || reach md ops 8 j i) && okOd md ops lt t (listed.setIfInBounds i true)
  | .x i t, listed => (Region.ready md ops listed == [i]) && okOd md ops lt t (listed.setIfInBounds i true)
  | .b i j t1 t2, listed => (Region.ready md ops listed == [i, j]) && (t1.len == t2.len) && okOd md ops lt t1 (listed.setIfInBounds i true) && okOd md ops lt t2 (listed.setIfInBounds j true)
  | .b3 i j k t1 t2 t3, listed => (Region.ready md ops listed == [i, j, k]) && (t1.len == t2.len) && (t1.len == t3.len) && okOd md ops lt t1 (listed.setIfInBounds i true) && okOd md ops lt t2 (listed.setIfInBounds j true) && okOd md ops lt t3 (listed.setIfInBounds k true)
  | .b4 i j k m t1 t2 t3 t4, listed => (Region.ready md ops listed == [i, j, k, m]) && (t1.len == t2.len) && (t1.len == t3.len) && (t1.len == t4.len) && okOd md ops lt t1 (listed.setIfInBounds i true) && okOd md ops lt t2 (listed.setIfInBounds j true) && okOd md ops lt t3 (listed.setIfInBounds k true) && okOd md ops lt t4 (listed.setIfInBounds m true)
theorem od_R {Pi : World → Prop} {lt : Nat → Bool} {N : Act → World → Prop} (hsel : ∀ (j : Nat) (o : Oper) cs b, ops[j]? = some o → o.op ≠ .select cs b)
    (hlt0 : ∀ j, lt j = true → j < ops.size) :
    ∀ (t : Od) (listed : Array Bool) (a : Act) (w : World), okOd md ops lt t listed = true → Closed md ops listed → Pi w → wpOd κr P ops Pi N t a w → wpR κr P md ops Pi lt N t.len listed a w
  | .seq q, listed, a, w, hq, hcl, hP, h => seq_R hsel hlt0 q listed a w hq hcl (fun _ => hP) h
  | .r i t, listed, a, w, hq, hcl, hP, h => by
    obtain ⟨oi, v, hi, hy, h⟩ := h
    simp only [okOd, Bool.and_eq_true] at hq
    obtain ⟨⟨⟨hr, hf⟩, hl⟩, hq⟩ := hq
    refine wpR_first hi hsel t.len listed a w hP hcl (fun j oj hj hne hun hno => Region.free_spec hi hf j oj hj hne hun hno) (fun j hne hun hlj => ?_) (by simpa using hr) hy
      (od_R hsel hlt0 t _ _ w hq (hcl.set (by simpa using hr)) hP h)
    have := List.all_eq_true.1 hl j (List.mem_range.2 (hlt0 j hlj))
    simpa [hne, hun, hlj] using this
  | .x i t, listed, a, w, hq, hcl, hP, h => by
    simp only [okOd, Bool.and_eq_true, beq_iff_eq] at hq
    obtain ⟨hr, hq⟩ := hq
    refine ⟨fun h0 => (by rw [hr] at h0; cases h0), fun j hj => ?_⟩
    rw [hr] at hj
    have hji : j = i := by simpa using hj
    subst hji
    have h : wpO κr P ops Qf j (fun a' w' => Pi w' ∧ wpOd κr P ops Pi N t a' w') a w := h
    exact wpO_mono (fun a' w' h' => ⟨fun _ => h'.1, od_R hsel hlt0 t _ a' w' hq (hcl.set (by rw [hr]; simp)) h'.1 h'.2⟩) h
  | .b i j t1 t2, listed, a, w, hq, hcl, hP, h => by
    simp only [okOd, Bool.and_eq_true, beq_iff_eq] at hq
    obtain ⟨⟨⟨hr, hlen⟩, hq1⟩, hq2⟩ := hq
    refine ⟨fun h0 => (by rw [hr] at h0; cases h0), fun k hk => ?_⟩
    have hci := hcl.set (i := i) (by rw [hr]; simp)
    have hcj := hcl.set (i := j) (by rw [hr]; simp)
    rw [hr] at hk
    simp only [List.mem_cons, List.not_mem_nil, or_false] at hk
    rcases hk with rfl | rfl
    · exact wpO_mono (fun a' w' h' => ⟨fun _ => h'.1, od_R hsel hlt0 t1 _ a' w' hq1 hci h'.1 h'.2⟩) h.1
    · show wpO κr P ops Qf _ (fun a' w' => (_ → _) ∧ wpR κr P md ops Pi lt N t1.len _ a' w') a w
      rw [hlen]
      exact wpO_mono (fun a' w' h' => ⟨fun _ => h'.1, od_R hsel hlt0 t2 _ a' w' hq2 hcj h'.1 h'.2⟩) h.2
  | .b3 i j k t1 t2 t3, listed, a, w, hq, hcl, hP, h => by
    simp only [okOd, Bool.and_eq_true, beq_iff_eq] at hq
    obtain ⟨⟨⟨⟨⟨hr, hlen⟩, hlen3⟩, hq1⟩, hq2⟩, hq3⟩ := hq
    refine ⟨fun h0 => (by rw [hr] at h0; cases h0), fun m hk => ?_⟩
    have hci := hcl.set (i := i) (by rw [hr]; simp)
    have hcj := hcl.set (i := j) (by rw [hr]; simp)
    have hck := hcl.set (i := k) (by rw [hr]; simp)
    rw [hr] at hk
    simp only [List.mem_cons, List.not_mem_nil, or_false] at hk
    rcases hk with rfl | rfl | rfl
    · exact wpO_mono (fun a' w' h' => ⟨fun _ => h'.1, od_R hsel hlt0 t1 _ a' w' hq1 hci h'.1 h'.2⟩) h.1
    · show wpO κr P ops Qf _ (fun a' w' => (_ → _) ∧ wpR κr P md ops Pi lt N t1.len _ a' w') a w
      rw [hlen]
      exact wpO_mono (fun a' w' h' => ⟨fun _ => h'.1, od_R hsel hlt0 t2 _ a' w' hq2 hcj h'.1 h'.2⟩) h.2.1
    · show wpO κr P ops Qf _ (fun a' w' => (_ → _) ∧ wpR κr P md ops Pi lt N t1.len _ a' w') a w
      rw [hlen3]
      exact wpO_mono (fun a' w' h' => ⟨fun _ => h'.1, od_R hsel hlt0 t3 _ a' w' hq3 hck h'.1 h'.2⟩) h.2.2
  | .b4 i j k m t1 t2 t3 t4, listed, a, w, hq, hcl, hP, h => by
    simp only [okOd, Bool.and_eq_true, beq_iff_eq] at hq
    obtain ⟨⟨⟨⟨⟨⟨⟨hr, hlen⟩, hlen3⟩, hlen4⟩, hq1⟩, hq2⟩, hq3⟩, hq4⟩ := hq
    refine ⟨fun h0 => (by rw [hr] at h0; cases h0), fun m' hk => ?_⟩
    have hci := hcl.set (i := i) (by rw [hr]; simp)
    have hcj := hcl.set (i := j) (by rw [hr]; simp)
    have hck := hcl.set (i := k) (by rw [hr]; simp)
    have hcm := hcl.set (i := m) (by rw [hr]; simp)
    rw [hr] at hk
    simp only [List.mem_cons, List.not_mem_nil, or_false] at hk
    rcases hk with rfl | rfl | rfl | rfl
    · exact wpO_mono (fun a' w' h' => ⟨fun _ => h'.1, od_R hsel hlt0 t1 _ a' w' hq1 hci h'.1 h'.2⟩) h.1
    · show wpO κr P ops Qf _ (fun a' w' => (_ → _) ∧ wpR κr P md ops Pi lt N t1.len _ a' w') a w
      rw [hlen]
      exact wpO_mono (fun a' w' h' => ⟨fun _ => h'.1, od_R hsel hlt0 t2 _ a' w' hq2 hcj h'.1 h'.2⟩) h.2.1
    · show wpO κr P ops Qf _ (fun a' w' => (_ → _) ∧ wpR κr P md ops Pi lt N t1.len _ a' w') a w
      rw [hlen3]
      exact wpO_mono (fun a' w' h' => ⟨fun _ => h'.1, od_R hsel hlt0 t3 _ a' w' hq3 hck h'.1 h'.2⟩) h.2.2.1
    · show wpO κr P ops Qf _ (fun a' w' => (_ → _) ∧ wpR κr P md ops Pi lt N t1.len _ a' w') a w
      rw [hlen4]
      exact wpO_mono (fun a' w' h' => ⟨fun _ => h'.1, od_R hsel hlt0 t4 _ a' w' hq4 hcm h'.1 h'.2⟩) h.2.2.2
def okOD (ops : Array Oper) (t : Od) : Bool :=
  Region.noSelect ops && ((List.range 300).all fun j => !t.lt j || decide (j < ops.size)) && (t.len == ops.size) && noDefer ops && okOd .any ops (fun j => decide (j < ops.size) && t.lt j) t (Array.replicate ops.size false)
theorem wp_region_drawnO {Pi : World → Prop} {Q : Exit → Act → World → Prop} {id : Nat} {a : Act} {w : World} {t : Od} (hm : P.follows .mixedOrders = true)
    (hq : okOD ops t = true) (hP : Pi w.drew) (h : wpOd κr P ops Pi (fun a w => Q .normal a w) t a w.drew) : (Code.region id ops true).wpIn (Fr κr) 1 P Q a w := by
  simp only [okOD, Bool.and_eq_true, beq_iff_eq] at hq
  obtain ⟨⟨⟨⟨hs, _⟩, hlen⟩, hnd⟩, hq⟩ := hq
  refine wpIn_region_any hm ?_
  rw [← hlen]
  rw [← hlen] at hq
  refine wpR_any hnd _ _ a _ (od_R (Region.noSelect_spec hs) (lt := fun j => decide (j < ops.size) && t.lt j) (fun j hj => ?_) t _ a _ (by rw [hlen] at hq ⊢; exact hq) (fun k ok _ hk => absurd hk (by simp [Array.getD_eq_getD_getElem?, Array.getElem?_replicate]; split <;> simp)) hP h)
  simp only [Bool.and_eq_true, decide_eq_true_eq] at hj
  exact hj.1
end

/-! ### judgements -/
section
variable {κr : Option Nat} {P : Program} {n : Fm} {w0 : World} {S : List Nat} {σ : Slots} {η π : Heap} {l : List Oper} {N : Act → World → Prop} {Q : Exit → Act → World → Prop}

def WS (κr : Option Nat) (P : Program) (l : List Oper) (π : Heap) (N : Act → World → Prop) (n : Fm) (w0 : World) (S : List Nat) (σ : Slots) (η : Heap) (q : List (Nat × Kd)) : Prop :=
  (∀ p ∈ π, p ∈ η) → ∀ a w, St n w0 S σ η a w → wpSeq κr P l.toArray (HpOK π) N q a w
def WC (κr : Option Nat) (P : Program) (Q : Exit → Act → World → Prop) (n : Fm) (w0 : World) (S : List Nat) (σ : Slots) (η : Heap) (c : Code) : Prop :=
  ∀ a w, St n w0 S σ η a w → c.wpIn (Fr κr) 1 P Q a w
def QE (Q : Exit → Act → World → Prop) (e : Exit) (n : Fm) (w0 : World) (S : List Nat) (σ : Slots) (η : Heap) : Prop :=
  ∀ a w, St n w0 S σ η a w → Q e a w

/-! control -/
theorem wc_seq {x y : Code} (h : WC κr P (Exit.then (y.wpIn (Fr κr) 1 P Q) Q) n w0 S σ η x) : WC κr P Q n w0 S σ η (.seq x y) := fun a w hs => wpIn_seq (h a w hs)
theorem wc_skip (h : QE Q .normal n w0 S σ η) : WC κr P Q n w0 S σ η .skip := fun a w hs => wpIn_skip (h a w hs)
theorem wc_ret (h : QE Q .ret n w0 S σ η) : WC κr P Q n w0 S σ η .ret := fun a w hs => wpIn_ret (h a w hs)
theorem wc_exit {id : Nat} (h : QE Q (.exit id) n w0 S σ η) : WC κr P Q n w0 S σ η (.exit id) := fun a w hs => wpIn_exit (h a w hs)
theorem wc_block {id : Nat} {c : Code} (h : WC κr P (Exit.inBlock id Q) n w0 S σ η c) : WC κr P Q n w0 S σ η (.block id c) := fun a w hs => wpIn_block (h a w hs)
theorem wc_cond {c : Operand} {x y : Code} (b : Bool) (hc : ev σ c = some (.bool b)) (ht : b = true → WC κr P Q n w0 S σ η x) (hf : b = false → WC κr P Q n w0 S σ η y) :
    WC κr P Q n w0 S σ η (.cond c x y) := fun a w hs => wpIn_cond_split (t := b) (hs.sl.ev hc) (fun h => ht h a w hs) (fun h => hf h a w hs)
theorem wc_true {c : Operand} {x y : Code} (hc : ev σ c = some (.bool true)) (ht : WC κr P Q n w0 S σ η x) : WC κr P Q n w0 S σ η (.cond c x y) :=
  wc_cond true hc (fun _ => ht) (fun h => by cases h)
theorem wc_false {c : Operand} {x y : Code} (hc : ev σ c = some (.bool false)) (hf : WC κr P Q n w0 S σ η y) : WC κr P Q n w0 S σ η (.cond c x y) :=
  wc_cond false hc (fun h => by cases h) (fun _ => hf)

theorem qe_then {y : Code} (h : WC κr P Q n w0 S σ η y) : QE (Exit.then (y.wpIn (Fr κr) 1 P Q) Q) .normal n w0 S σ η := h
theorem qe_then_exit {K : Act → World → Prop} {id : Nat} (h : QE Q (.exit id) n w0 S σ η) : QE (Exit.then K Q) (.exit id) n w0 S σ η := h
theorem qe_then_ret {K : Act → World → Prop} (h : QE Q .ret n w0 S σ η) : QE (Exit.then K Q) .ret n w0 S σ η := h
theorem qe_block {id : Nat} (h : QE Q .normal n w0 S σ η) : QE (Exit.inBlock id Q) .normal n w0 S σ η := h
theorem qe_block_ret {id : Nat} (h : QE Q .ret n w0 S σ η) : QE (Exit.inBlock id Q) .ret n w0 S σ η := h
theorem qe_block_exit {id : Nat} (h : QE Q .normal n w0 S σ η) : QE (Exit.inBlock id Q) (.exit id) n w0 S σ η := fun a w hs => by
  show (if id = id then Q .normal a w else Q (.exit id) a w)
  rw [if_pos rfl]; exact h a w hs
theorem qe_block_exit' {id id' : Nat} (hne : Nat.beq id' id = false) (h : QE Q (.exit id') n w0 S σ η) : QE (Exit.inBlock id Q) (.exit id') n w0 S σ η := fun a w hs => by
  show (if id' = id then Q .normal a w else Q (.exit id') a w)
  rw [if_neg (Nat.ne_of_beq_eq_false hne)]; exact h a w hs

/-- forget slots and heap facts -/
def getAll (σ : Slots) (ts : List Nat) : List (Option Value) := ts.map (lk σ)
theorem lk_of_getAll {σ : Slots} : ∀ (σ' : Slots), getAll σ (σ'.map Prod.fst) = σ'.map (fun p => some p.2) → ∀ t v, lk σ' t = some v → lk σ t = some v
  | [], _, t, v, h => by simp [lk] at h
  | (k, u) :: r, hg, t, v, h => by
    simp only [getAll, List.map_cons, List.cons.injEq] at hg
    simp only [lk] at h
    cases hb : Nat.beq k t with
    | true => rw [hb] at h; simp at h; subst h; have := Nat.eq_of_beq_eq_true hb; subst this; exact hg.1
    | false => rw [hb] at h; simp at h; exact lk_of_getAll r hg.2 t v h
theorem wc_keep (σ' : Slots) (hk : getAll σ (σ'.map Prod.fst) = σ'.map (fun p => some p.2)) {c : Code} (h : WC κr P Q n w0 S σ' η c) : WC κr P Q n w0 S σ η c :=
  fun a w hs => h a w ⟨hs.df, hs.sz, fun t v ht => hs.sl t v (lk_of_getAll σ' hk t v ht), hs.hp, hs.nd, hs.on⟩
theorem wc_drop {η' : Heap} (hs : List.Sublist η' η) {c : Code} (h : WC κr P Q n w0 S σ η' c) : WC κr P Q n w0 S σ η c :=
  fun a w h0 => h a w ⟨h0.df, h0.sz, h0.sl, h0.hp.mono fun _ hp => hs.subset hp, h0.nd.sublist (hs.map _), h0.on⟩

/-- a loop: the rounds are counted by k -/
theorem wc_loop {c : Code} (I : Nat → Act → World → Prop) (k0 : Nat) (h0 : ∀ a w, St n w0 S σ η a w → I k0 a w)
    (round : ∀ k a w, I k a w → c.wpIn (Fr κr) 1 P (Exit.then (fun a' w' => ∃ k', k' < k ∧ I k' a' w') Q) a w) : WC κr P Q n w0 S σ η (.loop c) := fun a w hs => by
  classical
  have fnd : ∀ a w, (∃ k, I k a w) → ∃ m, I m a w ∧ ∀ k, I k a w → m ≤ k := fun a w ⟨k, hk⟩ => by
    induction k using Nat.strongRecOn with
    | _ k ih =>
      by_cases h : ∃ k', k' < k ∧ I k' a w
      · obtain ⟨k', h1, h2⟩ := h; exact ih k' h1 h2
      · exact ⟨k, hk, fun k' hk' => Nat.le_of_not_lt fun hlt => h ⟨k', hlt, hk'⟩⟩
  let mu : Act → World → Nat := fun a w => if h : ∃ k, I k a w then (fnd a w h).choose else 0
  have hmu : ∀ a w (h : ∃ k, I k a w), I (mu a w) a w ∧ ∀ k, I k a w → mu a w ≤ k := fun a w h => by
    have := (fnd a w h).choose_spec
    simp only [mu, dif_pos h]; exact this
  refine wpIn_loop (fun a w => ∃ k, I k a w) mu ⟨k0, h0 a w hs⟩ (fun a w hI => ?_)
  refine Go.wpIn_mono (round _ a w (hmu a w hI).1) (fun e a' w' hq => ?_)
  cases e with
  | normal =>
    obtain ⟨k', hlt, hk'⟩ := hq
    exact ⟨⟨k', hk'⟩, Nat.lt_of_le_of_lt ((hmu a' w' ⟨k', hk'⟩).2 k' hk') hlt⟩
  | _ => exact hq

/-! regions -/
theorem wc_plain {id : Nat} (q : List (Nat × Kd)) (hq : okP l.toArray q = true) (h : WS κr P l [] (fun a w => Q .normal a w) n w0 S σ η q) : WC κr P Q n w0 S σ η (.region id l.toArray false) :=
  fun a w hs => wp_region_plain hq (h (fun _ hp => by cases hp) a w hs)
theorem wc_drawn {id : Nat} (hm : P.follows .mixedOrders = true) (π : Heap) (hπ : ∀ p ∈ π, p ∈ η) (q : List (Nat × Kd)) (hq : okD l.toArray q = true)
    (h : WS κr P l π (fun a w => Q .normal a w) n w0 S σ η q) : WC κr P Q n w0 S σ η (.region id l.toArray true) :=
  fun a w hs => wp_region_drawn hm hq (hs.drew.hp.mono hπ) (h hπ a w.drew hs.drew)

def WSo (κr : Option Nat) (P : Program) (l : List Oper) (π : Heap) (N : Act → World → Prop) (n : Fm) (w0 : World) (S : List Nat) (σ : Slots) (η : Heap) (t : Od) : Prop :=
  (∀ p ∈ π, p ∈ η) → ∀ a w, St n w0 S σ η a w → wpOd κr P l.toArray (HpOK π) N t a w
theorem wc_drawnO {id : Nat} (hm : P.follows .mixedOrders = true) (π : Heap) (hπ : ∀ p ∈ π, p ∈ η) (t : Od) (hq : okOD l.toArray t = true)
    (h : WSo κr P l π (fun a w => Q .normal a w) n w0 S σ η t) : WC κr P Q n w0 S σ η (.region id l.toArray true) :=
  fun a w hs => wp_region_drawnO hm hq (hs.drew.hp.mono hπ) (h hπ a w.drew hs.drew)
theorem od_seq {q : List (Nat × Kd)} (h : WS κr P l π N n w0 S σ η q) : WSo κr P l π N n w0 S σ η (.seq q) := h
theorem od_r {i : Nat} {t : Od} (h : WS κr P l π (wpOd κr P l.toArray (HpOK π) N t) n w0 S σ η [(i, .r)]) : WSo κr P l π N n w0 S σ η (.r i t) := h
theorem od_x {i : Nat} {t : Od} (h : WS κr P l π (wpOd κr P l.toArray (HpOK π) N t) n w0 S σ η [(i, .x false)]) : WSo κr P l π N n w0 S σ η (.x i t) := h
theorem od_b {i j : Nat} {t1 t2 : Od} (h1 : WS κr P l π (wpOd κr P l.toArray (HpOK π) N t1) n w0 S σ η [(i, .x false)]) (h2 : WS κr P l π (wpOd κr P l.toArray (HpOK π) N t2) n w0 S σ η [(j, .x false)]) : WSo κr P l π N n w0 S σ η (.b i j t1 t2) :=
  fun hπ a w hs => ⟨h1 hπ a w hs, h2 hπ a w hs⟩
theorem od_b3 {i j k : Nat} {t1 t2 t3 : Od} (h1 : WS κr P l π (wpOd κr P l.toArray (HpOK π) N t1) n w0 S σ η [(i, .x false)]) (h2 : WS κr P l π (wpOd κr P l.toArray (HpOK π) N t2) n w0 S σ η [(j, .x false)]) (h3 : WS κr P l π (wpOd κr P l.toArray (HpOK π) N t3) n w0 S σ η [(k, .x false)]) : WSo κr P l π N n w0 S σ η (.b3 i j k t1 t2 t3) :=
  fun hπ a w hs => ⟨h1 hπ a w hs, h2 hπ a w hs, h3 hπ a w hs⟩
theorem od_b4 {i j k m : Nat} {t1 t2 t3 t4 : Od} (h1 : WS κr P l π (wpOd κr P l.toArray (HpOK π) N t1) n w0 S σ η [(i, .x false)]) (h2 : WS κr P l π (wpOd κr P l.toArray (HpOK π) N t2) n w0 S σ η [(j, .x false)]) (h3 : WS κr P l π (wpOd κr P l.toArray (HpOK π) N t3) n w0 S σ η [(k, .x false)]) (h4 : WS κr P l π (wpOd κr P l.toArray (HpOK π) N t4) n w0 S σ η [(m, .x false)]) : WSo κr P l π N n w0 S σ η (.b4 i j k m t1 t2 t3 t4) :=
  fun hπ a w hs => ⟨h1 hπ a w hs, h2 hπ a w hs, h3 hπ a w hs, h4 hπ a w hs⟩
theorem od_go {t : Od} (h : WSo κr P l π N n w0 S σ η t) : WS κr P l π (wpOd κr P l.toArray (HpOK π) N t) n w0 S σ η [] := h
theorem ws_nil (h : QE Q .normal n w0 S σ η) : WS κr P l π (fun a w => Q .normal a w) n w0 S σ η [] := fun _ a w hs => h a w hs

/-- a value from slots and protected facts, at whatever time -/
theorem ws_r {i d : Nat} {q : List (Nat × Kd)} {o : Oper} {v : Value} (ho : opAt l i = some o) (hd : o.dst = some d) (hdn : Nat.blt d n.n = true) (hg : gd l σ o.guard = some true)
    (hr : Rd P σ π o v) (k : WS κr P l π N n w0 S ((d, v) :: σ) η q) : WS κr P l π N n w0 S σ η ((i, .r) :: q) := fun hπ a w hs => by
  refine ⟨o, v, by rw [← opAt_eq]; exact ho, .inl ⟨gd_wanted hs.sl hg, fun w' hw' => hr a w' hs.sl hw'⟩, ?_⟩
  rw [hd]
  exact k hπ _ _ (hs.put v hdn)
theorem ws_rskip {i d : Nat} {q : List (Nat × Kd)} {o : Oper} (ho : opAt l i = some o) (hd : o.dst = some d) (hdn : Nat.blt d n.n = true) (hg : gd l σ o.guard = some false)
    (k : WS κr P l π N n w0 S ((d, undef) :: σ) η q) : WS κr P l π N n w0 S σ η ((i, .r) :: q) := fun hπ a w hs => by
  refine ⟨o, undef, by rw [← opAt_eq]; exact ho, .inr ⟨gd_wanted hs.sl hg, rfl⟩, ?_⟩
  rw [hd]
  exact k hπ _ _ (hs.put undef hdn)

/-- two effects whose order is open: both orders -/
theorem ws_both {i j : Nat} {q : List (Nat × Kd)} (h1 : WS κr P l π N n w0 S σ η ((i, .x false) :: (j, .x false) :: q)) (h2 : WS κr P l π N n w0 S σ η ((j, .x false) :: (i, .x false) :: q)) : WS κr P l π N n w0 S σ η ((i, .b j) :: q) :=
  fun hπ a w hs => ⟨h1 hπ a w hs, h2 hπ a w hs⟩
/-- an effect: what follows from one operation's run -/
theorem ws_x {late : Bool} {i : Nat} {q : List (Nat × Kd)} {o : Oper} (ho : opAt l i = some o) (hg : gd l σ o.guard = some true)
    (h : (∀ p ∈ π, p ∈ η) → ∀ a w, St n w0 S σ η a w → OW κr P o a w (fun a' w' => (late = false → HpOK π w') ∧ wpSeq κr P l.toArray (HpOK π) N q a' w') Qf) : WS κr P l π N n w0 S σ η ((i, .x late) :: q) := fun hπ a w hs => by
  have h1 := h hπ a w hs
  have hw := gd_wanted hs.sl hg
  rw [opAt_eq] at ho
  cases late
  · show wpO κr P l.toArray Qf i _ a w
    unfold wpO
    simp only [ho, hw, if_true]
    exact (OW_mono (fun a' w' h' => ⟨h'.1 rfl, h'.2⟩) h1)
  · show wpO κr P l.toArray Qf i _ a w
    unfold wpO
    simp only [ho, hw, if_true]
    exact (OW_mono (fun a' w' h' => h'.2) h1)
theorem ws_xskip {late : Bool} {i d : Nat} {q : List (Nat × Kd)} {o : Oper} (ho : opAt l i = some o) (hd : o.dst = some d) (hdn : Nat.blt d n.n = true) (hg : gd l σ o.guard = some false)
    (k : WS κr P l π N n w0 S ((d, undef) :: σ) η q) : WS κr P l π N n w0 S σ η ((i, .x late) :: q) := fun hπ a w hs => by
  have hw := gd_wanted hs.sl hg
  have hk := k hπ _ _ (hs.put undef hdn)
  rw [← hd] at hk
  rw [opAt_eq] at ho
  cases late
  · show wpO κr P l.toArray Qf i _ a w
    unfold wpO
    simp only [ho, hw, Bool.false_eq_true, if_false]
    exact ⟨hs.hp.mono hπ, hk⟩
  · show wpO κr P l.toArray Qf i _ a w
    unfold wpO
    simp only [ho, hw, Bool.false_eq_true, if_false]
    exact hk

/-- a read in a place where the order is fixed -/
theorem ws_l {late : Bool} {i d : Nat} {q : List (Nat × Kd)} {o : Oper} {v : Value} (ho : opAt l i = some o) (hd : o.dst = some d) (hdn : Nat.blt d n.n = true) (hg : gd l σ o.guard = some true)
    (hr : Rd P σ η o v) (k : WS κr P l π N n w0 S ((d, v) :: σ) η q) : WS κr P l π N n w0 S σ η ((i, .x late) :: q) :=
  ws_x ho hg fun hπ a w hs => by
    unfold OW
    rw [hr a w hs.sl hs.hp]
    refine ⟨fun _ => hs.hp.mono hπ, ?_⟩
    rw [hd]
    exact k hπ _ _ (hs.put v hdn)
end

/-! ### what operations yield -/
class HM (b : Nat) (o : outParam Obj) (η : Heap) : Prop where
  go : (b, o) ∈ η
instance HM.tail (b : Nat) (o : Obj) (p : Nat × Obj) (η : Heap) [h : HM b o η] : HM b o (p :: η) := ⟨List.mem_cons_of_mem _ h.go⟩
instance HM.head (b : Nat) (o : Obj) (η : Heap) : HM b o ((b, o) :: η) := ⟨by simp⟩

class Scalar (P : Program) (T : TypeId) : Prop where
  go : ∀ w, (isAgg T).run P w = .ok false w
class Agg (P : Program) (T : TypeId) (k : outParam Nat) : Prop where
  go : ∀ w, (isAgg T).run P w = .ok true w
  sz : ∀ w, (sizeOf T).run P w = .ok k w
class GetAt (cs : Array Value) (i : Nat) (v : outParam Value) : Prop where
  go : cs[i]? = some v
instance GetAt.head (v : Value) (l : List Value) : GetAt (List.toArray (v :: l)) 0 v := ⟨by simp⟩
instance GetAt.tail (u v : Value) (l : List Value) (i : Nat) [h : GetAt (List.toArray l) i v] : GetAt (List.toArray (u :: l)) (i + 1) v := ⟨by simpa using h.go⟩

class ReadsAt (P : Program) (T : TypeId) (cs : Array Value) (off : Nat) (v : outParam Value) : Prop where
  go : ∀ (w : World) (b : Nat) (E : TypeId) (fr : Nat × Nat), w.heap[b]? = some (.cells cs E fr) → (loadVar T ⟨b, off, none⟩).run P w = .ok v w
theorem run_load_cell (P : Program) (w : World) (a : Addr) (v : Value) (h : w.cell? a = some v) : (load a).run P w = .ok v w := by
  simp [load, Sem.run, h]
instance ReadsAt.scalar {P : Program} {T : TypeId} {cs : Array Value} {off : Nat} {v : Value} [hT : Scalar P T] [hg : GetAt cs off v] : ReadsAt P T cs off v := ⟨fun w b E fr hb => by
  have hc : w.cell? ⟨b, off, none⟩ = some v := by simp [World.cell?, hb, hg.go]
  simp [loadVar, Sem.run_bind, hT.go, hc]⟩
theorem add_plain (b o j : Nat) : (⟨b, o, none⟩ : Addr).add j = ⟨b, o + j, none⟩ := by unfold Addr.add; split <;> simp_all
theorem ReadsAt.agg {P : Program} {T : TypeId} {cs cs' : Array Value} {off k : Nat} [hT : Agg P T k] (hs : cs'.size = k) (hg : ∀ j, j < k → cs[off + j]? = cs'[j]?) : ReadsAt P T cs off (.agg cs') := ⟨fun w b E fr hb => by
  have hl : (loadCells ⟨b, off, none⟩ cs'.toList.length).run P w = .ok cs'.toList.toArray w :=
    run_loadCells_list (P := P) w ⟨b, off, none⟩ cs'.toList (fun j v hv => by
      have hj : j < cs'.size := by
        have := (List.getElem?_eq_some_iff.1 hv).1; simpa using this
      rw [add_plain]
      simp only [World.cell?, hb, Option.isSome_none, Bool.false_eq_true, if_false]
      rw [hg j (by omega)]
      simpa using hv)
  simp only [Array.length_toList, Array.toArray_toList] at hl
  rw [hs] at hl
  simp [loadVar, Sem.run_bind, hT.go, hT.sz, hl]⟩

class AddN (a b : Nat) (c : outParam Nat) : Prop where
  go : a + b = c
instance AddN.any (a b : Nat) : AddN a b (a + b) := ⟨rfl⟩
instance AddN.zr (a : Nat) : AddN a 0 a := ⟨by simp⟩
instance AddN.zl (b : Nat) : AddN 0 b b := ⟨by simp⟩

class FieldAt (P : Program) (s : TypeId) (f : Nat) (off : outParam Nat) : Prop where
  go : ∀ (w : World) (b o : Nat), (Instr.fieldAt s (.pointer (some ⟨b, o, none⟩)) f).run P w = .ok (.pointer (some ⟨b, o + off, none⟩)) w
theorem FieldAt.mk' {P : Program} {s : TypeId} {f : Nat} {fs : Array Field} (F : Field) {k : Nat} (hu : P.underlying s = some (.struct fs)) (hf : fs[f]? = some F) (hz : ∀ w, (sizeOf F.type).run P w = .ok k w) (hk : Nat.beq k 0 = false) : FieldAt P s f F.offset := ⟨fun w b o => by
  have hk' : k ≠ 0 := Nat.ne_of_beq_eq_false hk
  simp [Instr.fieldAt, run_underlying hu, hf, Instr.sureAddr, fieldPlace, Sem.run_bind, hz, hk', add_plain]⟩

section
variable {P : Program} {σ : Slots} {φ : Heap} {dst : Option Tmp} {ty : TypeId} {pos : String} {aft : Array Edge} {g : Option (Nat × Bool)}

theorem rd_move {x : Operand} {v : Value} (hx : ev σ x = some v) : Rd P σ φ ⟨dst, .move x, ty, pos, aft, g⟩ v := fun a w hs _ => by
  simp [execOp, hs.ev hx]
theorem rd_assign {x : Operand} {v : Value} (hx : ev σ x = some v) : Rd P σ φ ⟨dst, .assign x, ty, pos, aft, g⟩ v := fun a w hs _ => by
  simp [execOp, hs.ev hx]
theorem rd_pick_t {c x y : Operand} {v : Value} (hc : ev σ c = some (.bool true)) (hx : ev σ x = some v) : Rd P σ φ ⟨dst, .pick c x y, ty, pos, aft, g⟩ v := fun a w hs _ => by
  simp [execOp, hs.ev hc, hs.ev hx, asBool]
theorem rd_pick_f {c x y : Operand} {v : Value} (hc : ev σ c = some (.bool false)) (hy : ev σ y = some v) : Rd P σ φ ⟨dst, .pick c x y, ty, pos, aft, g⟩ v := fun a w hs _ => by
  simp [execOp, hs.ev hc, hs.ev hy, asBool]
theorem rd_nil {x : Operand} {A : Addr} (hx : ev σ x = some (.pointer (some A))) : Rd P σ φ ⟨dst, .nilCheck x, ty, pos, aft, g⟩ (.pointer (some A)) := fun a w hs _ => by
  simp [execOp, hs.ev hx]
theorem rd_extract {x : Operand} {j : Nat} {vs : Array Value} {v : Value} (hx : ev σ x = some (.tuple vs)) [hv : GetAt vs j v] : Rd P σ φ ⟨dst, .extract x j, ty, pos, aft, g⟩ v := fun a w hs _ => by
  simp [execOp, hs.ev hx, Instr.extract, hv.go]
theorem rd_fieldAddr {s f : Nat} {x : Operand} {b o off r : Nat} (hx : ev σ x = some (.pointer (some ⟨b, o, none⟩))) [hf : FieldAt P s f off] [hn : AddN o off r] :
    Rd P σ φ ⟨dst, .fieldAddr s x f, ty, pos, aft, g⟩ (.pointer (some ⟨b, r, none⟩)) := fun a w hs _ => by
  simp [execOp, hs.ev hx, hf.go, hn.go]
theorem rd_load {T : TypeId} {x : Operand} {b o : Nat} {cs : Array Value} {E : TypeId} {fr : Nat × Nat} {v : Value} (hx : ev σ x = some (.pointer (some ⟨b, o, none⟩))) [hm : HM b (.cells cs E fr) φ] [hr : ReadsAt P T cs o v] :
    Rd P σ φ ⟨dst, .load T x, ty, pos, aft, g⟩ v := fun a w hs hp => by
  simp [execOp, hs.ev hx, Instr.loadAt, Instr.sureAddr, hr.go w b E fr (hp _ _ hm.go)]
/-- a load with the reading given -/
theorem rd_load' {T : TypeId} {x : Operand} {b o : Nat} {cs : Array Value} {E : TypeId} {fr : Nat × Nat} {v : Value} (hx : ev σ x = some (.pointer (some ⟨b, o, none⟩))) (hr : ReadsAt P T cs o v) [_hm : HM b (.cells cs E fr) φ] :
    Rd P σ φ ⟨dst, .load T x, ty, pos, aft, g⟩ v := rd_load hx
theorem rd_not {T : TypeId} {x : Operand} {b : Bool} (hx : ev σ x = some (.bool b)) : Rd P σ φ ⟨dst, .unOp .not T x, ty, pos, aft, g⟩ (.bool (!b)) := fun a w hs _ => by
  simp [execOp, hs.ev hx, Op.unary]

/-- '==', '<' .. on two integers: the Bool -/
def cmpB : BinOp → Int → Int → Option Bool
  | .eql, x, y => some (x == y)
  | .neq, x, y => some (x != y)
  | .lss, x, y => some (decide (x < y))
  | .leq, x, y => some (decide (x ≤ y))
  | .gtr, x, y => some (decide (y < x))
  | .geq, x, y => some (decide (y ≤ x))
  | _, _, _ => none
theorem rd_cmp {op : BinOp} {T U : TypeId} {x y : Operand} {k : IntKind} {m n : Int} (b : Bool) (hx : ev σ x = some (.int k m)) (hy : ev σ y = some (.int k n)) (hb : cmpB op m n = some b) :
    Rd P σ φ ⟨dst, .binOp op T x y U, ty, pos, aft, g⟩ (.bool b) := fun a w hs _ => by
  cases op <;> simp [cmpB] at hb <;> subst hb <;> simp [execOp, hs.ev hx, hs.ev hy, eqGuard, binOp, Op.intCmp, GT.gt, GE.ge]
def arithI : BinOp → Int → Int → Option Int
  | .add, x, y => some (x + y)
  | .sub, x, y => some (x - y)
  | .mul, x, y => some (x * y)
  | _, _, _ => none
theorem rd_arith {op : BinOp} {T U : TypeId} {x y : Operand} {k : IntKind} {m n r : Int} (z : Int) (hx : ev σ x = some (.int k m)) (hy : ev σ y = some (.int k n)) (hr : arithI op m n = some r) (hz : k.wrap r = z) :
    Rd P σ φ ⟨dst, .binOp op T x y U, ty, pos, aft, g⟩ (.int k z) := fun a w hs _ => by
  subst hz
  cases op <;> simp [arithI] at hr <;> subst hr <;> simp [execOp, hs.ev hx, hs.ev hy, eqGuard, binOp, Op.intArith]
theorem rd_rem {T U : TypeId} {x y : Operand} {k : IntKind} {m n : Int} (z : Int) (hx : ev σ x = some (.int k m)) (hy : ev σ y = some (.int k n)) (hn : n ≠ 0) (hz : m.tmod n = z) :
    Rd P σ φ ⟨dst, .binOp .rem T x y U, ty, pos, aft, g⟩ (.int k z) := fun a w hs _ => by
  subst hz
  simp [execOp, hs.ev hx, hs.ev hy, eqGuard, binOp, Op.intDiv, hn]
theorem rd_quo {T U : TypeId} {x y : Operand} {k : IntKind} {m n : Int} (z : Int) (hx : ev σ x = some (.int k m)) (hy : ev σ y = some (.int k n)) (hn : n ≠ 0) (hz : k.wrap (m.tdiv n) = z) :
    Rd P σ φ ⟨dst, .binOp .quo T x y U, ty, pos, aft, g⟩ (.int k z) := fun a w hs _ => by
  subst hz
  simp [execOp, hs.ev hx, hs.ev hy, eqGuard, binOp, Op.intDiv, hn]
/-- '==' and its kin with the value given -/
theorem rd_bin {op : BinOp} {T U : TypeId} {x y : Operand} {u v r : Value} (hx : ev σ x = some u) (hy : ev σ y = some v) (hr : ∀ w, (do eqGuard op T x y u v; binOp op T u v : Sem Value).run P w = .ok r w) :
    Rd P σ φ ⟨dst, .binOp op T x y U, ty, pos, aft, g⟩ r := fun a w hs _ => by
  have h := hr w
  simp only [execOp, hs.ev hx, hs.ev hy]
  rw [Sem.run_bind, h]
  rfl
theorem rd_conv {s d : TypeId} {x : Operand} {u v : Value} (hx : ev σ x = some u) (hr : ∀ w, (convert s d u).run P w = .ok v w) : Rd P σ φ ⟨dst, .convert s d x, ty, pos, aft, g⟩ v := fun a w hs _ => by
  simp [execOp, hs.ev hx, hr]
theorem run_conv_int {s d : TypeId} {ks k : IntKind} {k' : IntKind} {m : Int} (z : Int) (hs : P.underlying s = some (.int ks)) (hd : P.underlying d = some (.int k)) (hz : k.wrap m = z) (w : World) :
    (convert s d (.int k' m)).run P w = .ok (.int k z) w := by
  subst hz
  simp [convert, run_underlying hs, run_underlying hd, Conv.intToInt]
theorem rd_mkfunc {fn : Fn} {first caps : List Operand} {fs cs : List Value} (hf : evs σ first = some fs) (hc : evs σ caps = some cs) :
    Rd P σ φ ⟨dst, .makeFunc fn first.toArray caps.toArray, ty, pos, aft, g⟩ (.func fn fs.toArray cs.toArray) := fun a w hs _ => by
  simp [execOp, Instr.makeFunc, hs.evs hf, hs.evs hc]
theorem run_len_slice' {ts : Array TypeId} {T E ty : TypeId} {A : Option Addr} {m c : Nat} (hts : ts[0]? = some T) (hT : P.underlying T = some (.slice E)) (w : World) : (Builtin.len_ ts ty #[.slice A m c]).run P w = .ok (.int .i64 m) w := by
  simp [Builtin.len_, hts, run_underlying hT, goInt]
theorem rd_builtin {b : Builtin} {xs : List Operand} {vs : List Value} {ts : Array TypeId} {v : Value} (hx : evs σ xs = some vs)
    (hr : ∀ cs w, HpOK φ w → (builtin b ts ty cs vs.toArray).run P w = .ok (.value v) w) :
    Rd P σ φ ⟨dst, .call { callee := .builtin b, args := xs.toArray, argTypes := ts }, ty, pos, aft, g⟩ v := fun a w hs hp => by
  have h := hr (xs.toArray.map fun | .const _ => true | _ => false) w hp
  have e : xs.toArray.map a.eval = vs.toArray := by rw [List.map_toArray, hs.evs hx]
  show (builtin b ts ty (xs.toArray.map fun | .const _ => true | _ => false) (xs.toArray.map a.eval)).run P w = _
  rw [e]; exact h
theorem rd_len {x : Operand} {T E : TypeId} {A : Option Addr} {m c : Nat} (hx : ev σ x = some (.slice A m c)) (hT : P.underlying T = some (.slice E)) :
    Rd P σ φ ⟨dst, .call { callee := .builtin .len, args := #[x], argTypes := #[T] }, ty, pos, aft, g⟩ (.int .i64 m) :=
  rd_builtin (xs := [x]) (vs := [.slice A m c]) (by simp [evs, hx]) fun cs w _ => by
    simp [builtin, run_len_slice' (P := P) (ts := #[T]) (T := T) (E := E) rfl hT]
theorem rd_max {x y : Operand} {ts : Array TypeId} {k k' : IntKind} {m n : Int} (hx : ev σ x = some (.int k m)) (hy : ev σ y = some (.int k' n)) :
    Rd P σ φ ⟨dst, .call { callee := .builtin .max, args := #[x, y], argTypes := ts }, ty, pos, aft, g⟩ (.int k (if n > m then n else m)) :=
  rd_builtin (xs := [x, y]) (vs := [.int k m, .int k' n]) (by simp [evs, hx, hy]) fun cs w _ => by
    simp [builtin, Builtin.max_, Builtin.max2]
theorem rd_min {x y : Operand} {ts : Array TypeId} {k k' : IntKind} {m n : Int} (hx : ev σ x = some (.int k m)) (hy : ev σ y = some (.int k' n)) :
    Rd P σ φ ⟨dst, .call { callee := .builtin .min, args := #[x, y], argTypes := ts }, ty, pos, aft, g⟩ (.int k (if n < m then n else m)) :=
  rd_builtin (xs := [x, y]) (vs := [.int k m, .int k' n]) (by simp [evs, hx, hy]) fun cs w _ => by
    simp [builtin, Builtin.min_, Builtin.min2]

/-- 'x[:]' of an array behind a pointer -/
theorem rd_sliceArr {T E : TypeId} {x : Operand} {b o m : Nat} (hx : ev σ x = some (.pointer (some ⟨b, o, none⟩))) (hT : P.underlying T = some (.array m E)) (_hm : Nat.beq m 0 = false) (hE : ∀ w, (sizeOf E).run P w = .ok 1 w) :
    Rd P σ φ ⟨dst, .slice T x none none none, ty, pos, aft, g⟩ (.slice (some ⟨b, o, none⟩) m m) := fun a w hs _ => by
  simp [execOp, hs.ev hx, Instr.sliceAt, run_underlying hT, Instr.sureAddr, Instr.sliceBounds, hE, add_plain]
theorem rd_index {T E : TypeId} {x ix : Operand} {b o len cap k : Nat} {kd : IntKind} {j : Int} (r : Nat) (hx : ev σ x = some (.slice (some ⟨b, o, none⟩) len cap)) (hi : ev σ ix = some (.int kd j))
    (hT : P.underlying T = some (.slice E)) (hE : ∀ w, (sizeOf E).run P w = .ok k w) (hj : 0 ≤ j ∧ j < len) (hr : o + j.toNat * k = r) :
    Rd P σ φ ⟨dst, .indexAddr T x ix, ty, pos, aft, g⟩ (.pointer (some ⟨b, r, none⟩)) := fun a w hs _ => by
  subst hr
  simp [execOp, hs.ev hx, hs.ev hi, Instr.indexAt, asIntOf, run_underlying hT, hj.1, hj.2, hE, add_plain]

class Builds (P : Program) (T : TypeId) (ps : List (Nat × Value)) (cs : outParam (Array Value)) : Prop where
  go : ∀ w, (Instr.build T ps.toArray).run P w = .ok (.agg cs) w
def evp (σ : Slots) : List (Nat × Operand) → Option (List (Nat × Value))
  | [] => some []
  | (i, x) :: r => match ev σ x with
    | some v => match evp σ r with
      | some vs => some ((i, v) :: vs)
      | none => none
    | none => none
theorem SlOK.evp {σ : Slots} {a : Act} (h : SlOK σ a) : ∀ {xs : List (Nat × Operand)} {vs : List (Nat × Value)}, Sx.evp σ xs = some vs → xs.map (fun (i, x) => (i, a.eval x)) = vs
  | [], vs, hx => by simp [Sx.evp] at hx; simp [hx]
  | (i, x) :: r, vs, hx => by
    simp only [Sx.evp] at hx
    split at hx
    · rename_i v hv
      split at hx
      · rename_i us hus
        cases hx
        simp [h.ev hv, h.evp hus]
      · cases hx
    · cases hx
theorem rd_build {T : TypeId} {ps : List (Nat × Operand)} {vs : List (Nat × Value)} {cs : Array Value} (hx : evp σ ps = some vs) [hb : Builds P T vs cs] : Rd P σ φ ⟨dst, .build T ps.toArray, ty, pos, aft, g⟩ (.agg cs) := fun a w hs _ => by
  have e : ps.toArray.map (fun (i, x) => (i, a.eval x)) = vs.toArray := by rw [List.map_toArray, hs.evp hx]
  show ((do pure (.value (← Instr.build T (ps.toArray.map fun (i, x) => (i, a.eval x)))) : Sem Next)).run P w = _
  rw [e]
  simp [hb.go]
/-- a field of a struct value -/
class PartOf (P : Program) (s f : Nat) (cs : Array Value) (v : outParam Value) : Prop where
  go : ∀ w, (Instr.field s (.agg cs) f).run P w = .ok v w
theorem rd_field {s f : Nat} {x : Operand} {cs : Array Value} {v : Value} (hx : ev σ x = some (.agg cs)) [h : PartOf P s f cs v] : Rd P σ φ ⟨dst, .field s x f, ty, pos, aft, g⟩ v := fun a w hs _ => by
  simp [execOp, hs.ev hx, h.go]
end

/-! ### effects -/
section
variable {κr : Option Nat} {P : Program} {n : Fm} {w0 : World} {S : List Nat} {σ : Slots} {η π : Heap} {l : List Oper} {N : Act → World → Prop} {q : List (Nat × Kd)} {late : Bool} {i : Nat}
  {ty : TypeId} {pos : String} {aft : Array Edge} {g : Option (Nat × Bool)} {d : Nat}

/-- an operation whose run yields a value in one new block -/
theorem ws_new {op : Op} {v : Nat → Value} {o : Obj} (ho : opAt l i = some ⟨some d, op, ty, pos, aft, g⟩) (hdn : Nat.blt d n.n = true) (hg : gd l σ g = some true)
    (hr : ∀ a w, SlOK σ a → HpOK η w → (execOp a.eval ⟨some d, op, ty, pos, aft, g⟩).run P w = .ok (.value (v w.heap.size)) (w.alloc o))
    (k : ∀ b, w0.heap.size ≤ b → WS κr P l π N n w0 S ((d, v b) :: σ) ((b, o) :: η) q) : WS κr P l π N n w0 S σ η ((i, .x late) :: q) :=
  ws_x ho hg fun hπ a w hs => by
    unfold OW
    rw [hr a w hs.sl hs.hp]
    have h1 : St n w0 S ((d, v w.heap.size) :: σ) ((w.heap.size, o) :: η) (a.put (some d) (v w.heap.size)) (w.alloc o) := (hs.alloc o).put _ hdn
    exact ⟨fun _ => (hs.hp.mono hπ).alloc o, k w.heap.size hs.on.size (fun p hp => List.mem_cons_of_mem _ (hπ p hp)) _ _ h1⟩

class ZeroOf (P : Program) (T : TypeId) (cs : outParam (Array Value)) : Prop where
  go : ∃ z : Value, (∀ w, (zeroValue T).run P w = .ok z w) ∧ z.cells = cs
theorem ws_alloc {T : TypeId} {cs : Array Value} (ho : opAt l i = some ⟨some d, .alloc T, ty, pos, aft, g⟩) (hdn : Nat.blt d n.n = true) (hg : gd l σ g = some true) [hz : ZeroOf P T cs]
    (k : ∀ b, w0.heap.size ≤ b → WS κr P l π N n w0 S ((d, .pointer (some ⟨b, 0, none⟩)) :: σ) ((b, .cells cs T (0, 0)) :: η) q) : WS κr P l π N n w0 S σ η ((i, .x late) :: q) :=
  ws_new (v := fun b => .pointer (some ⟨b, 0, none⟩)) ho hdn hg (fun a w _ _ => by
    obtain ⟨z, h1, h2⟩ := hz.go
    simp [execOp, Instr.alloc, Sem.run_bind, h1, newVar, newRow, newObj, Sem.run, h2]) k
class CellsOf (v : Value) (cs : outParam (Array Value)) : Prop where
  go : v.cells = cs
instance CellsOf.agg (cs : Array Value) : CellsOf (.agg cs) cs := ⟨rfl⟩
instance CellsOf.int (k : IntKind) (m : Int) : CellsOf (.int k m) #[.int k m] := ⟨rfl⟩
instance CellsOf.bool (b : Bool) : CellsOf (.bool b) #[.bool b] := ⟨rfl⟩
instance CellsOf.ptr (p : Option Addr) : CellsOf (.pointer p) #[.pointer p] := ⟨rfl⟩
instance CellsOf.slice (p : Option Addr) (m c : Nat) : CellsOf (.slice p m c) #[.slice p m c] := ⟨rfl⟩
instance CellsOf.map (r : Option Nat) : CellsOf (.map r) #[.map r] := ⟨rfl⟩
theorem ws_box {T : TypeId} {x : Operand} {v : Value} {cs : Array Value} (ho : opAt l i = some ⟨some d, .box T x, ty, pos, aft, g⟩) (hdn : Nat.blt d n.n = true) (hg : gd l σ g = some true) (hx : ev σ x = some v) [hc : CellsOf v cs]
    (k : ∀ b, w0.heap.size ≤ b → WS κr P l π N n w0 S ((d, .pointer (some ⟨b, 0, none⟩)) :: σ) ((b, .cells cs T (0, 0)) :: η) q) : WS κr P l π N n w0 S σ η ((i, .x late) :: q) :=
  ws_new (v := fun b => .pointer (some ⟨b, 0, none⟩)) ho hdn hg (fun a w hs _ => by
    simp [execOp, hs.ev hx, Instr.box, newVar, newRow, newObj, Sem.run, hc.go]) k
theorem ws_makeMap {T : TypeId} (ho : opAt l i = some ⟨some d, .makeMap T none, ty, pos, aft, g⟩) (hdn : Nat.blt d n.n = true) (hg : gd l σ g = some true)
    (k : ∀ b, w0.heap.size ≤ b → WS κr P l π N n w0 S ((d, .map (some b)) :: σ) ((b, .map #[] 0) :: η) q) : WS κr P l π N n w0 S σ η ((i, .x late) :: q) :=
  ws_new (v := fun b => .map (some b)) ho hdn hg (fun a w _ _ => by
    simp [execOp, Instr.makeMap, newObj, Sem.run]) k
/-- a slice literal: its cells -/
class BuildsS (P : Program) (T : TypeId) (m : Nat) (ps : List (Nat × Value)) (E : outParam TypeId) (cs : outParam (Array Value)) : Prop where
  go : ∀ w, (Instr.buildSlice T m ps.toArray).run P w = .ok (.slice (some ⟨w.heap.size, 0, none⟩) m m) (w.alloc (.cells cs E (0, 0)))
theorem ws_buildSlice {T E : TypeId} {m : Nat} {ps : List (Nat × Operand)} {vs : List (Nat × Value)} {cs : Array Value} (ho : opAt l i = some ⟨some d, .buildSlice T m ps.toArray, ty, pos, aft, g⟩) (hdn : Nat.blt d n.n = true) (hg : gd l σ g = some true)
    (hx : evp σ ps = some vs) [hb : BuildsS P T m vs E cs]
    (k : ∀ b, w0.heap.size ≤ b → WS κr P l π N n w0 S ((d, .slice (some ⟨b, 0, none⟩) m m) :: σ) ((b, .cells cs E (0, 0)) :: η) q) : WS κr P l π N n w0 S σ η ((i, .x late) :: q) :=
  ws_new (v := fun b => .slice (some ⟨b, 0, none⟩) m m) ho hdn hg (fun a w hs _ => by
    have e : ps.toArray.map (fun (i, x) => (i, a.eval x)) = vs.toArray := by rw [List.map_toArray, hs.evp hx]
    show ((do pure (.value (← Instr.buildSlice T m (ps.toArray.map fun (i, x) => (i, a.eval x)))) : Sem Next)).run P w = _
    rw [e]
    simp [hb.go]) k

/-- stores -/
class HU (b : Nat) (o : outParam Obj) (o' : Obj) (η : Heap) (η' : outParam Heap) : Prop where
  mem : (b, o) ∈ η
  go : ∀ w : World, HpOK η w → (η.map Prod.fst).Nodup → HpOK η' (World.setBlk w b o')
  nd : η'.map Prod.fst = η.map Prod.fst
theorem HpOK.setBlk_far {η : Heap} {w : World} (h : HpOK η w) {b : Nat} (hb : b ∉ η.map Prod.fst) (o : Obj) : HpOK η (World.setBlk w b o) := fun c x hm => by
  rw [setBlk_other w b c o (fun e => hb (by subst e; exact List.mem_map.2 ⟨_, hm, rfl⟩))]
  exact h c x hm
instance HU.tail (b : Nat) (o o' : Obj) (p : Nat × Obj) (η η' : Heap) [h : HU b o o' η η'] : HU b o o' (p :: η) (p :: η') := ⟨List.mem_cons_of_mem _ h.mem, fun w hp hn => by
  rw [List.map_cons, List.nodup_cons] at hn
  obtain ⟨c, x⟩ := p
  refine HpOK.cons (h.go w (fun c x hm => hp c x (List.mem_cons_of_mem _ hm)) hn.2) ?_
  rw [setBlk_other w b c o' (fun e => hn.1 (by subst e; exact List.mem_map.2 ⟨_, h.mem, rfl⟩))]
  exact hp c x (by simp), by simp [h.nd]⟩
instance HU.head (b : Nat) (o o' : Obj) (η : Heap) : HU b o o' ((b, o) :: η) ((b, o') :: η) := ⟨by simp, fun w h hn => by
  rw [List.map_cons, List.nodup_cons] at hn
  refine HpOK.cons (HpOK.setBlk_far (fun c x hm => h c x (List.mem_cons_of_mem _ hm)) hn.1 o') (setBlk_same w b o' ?_)
  exact h.lt (b := b) (o := o) (by simp), rfl⟩

class WritesAt (P : Program) (T : TypeId) (cs : Array Value) (off : Nat) (v : Value) (cs' : outParam (Array Value)) : Prop where
  go : ∀ (w : World) (b : Nat) (E : TypeId), w.heap[b]? = some (.cells cs E (0, 0)) → (storeVar T ⟨b, off, none⟩ v).run P w = .ok () (World.setBlk w b (.cells cs' E (0, 0)))
theorem ws_store {T E : TypeId} {x y : Operand} {b o : Nat} {cs cs' : Array Value} {v : Value} {η' : Heap} (ho : opAt l i = some ⟨none, .store T x y, ty, pos, aft, g⟩) (hg : gd l σ g = some true)
    (hx : ev σ x = some (.pointer (some ⟨b, o, none⟩))) (hy : ev σ y = some v) [hm : HM b (.cells cs E (0, 0)) η] [hw : WritesAt P T cs o v cs'] [hu : HU b (.cells cs E (0, 0)) (.cells cs' E (0, 0)) η η']
    (hb : w0.heap.size ≤ b ∨ b ∈ S) (hπ' : ∀ p ∈ π, p ∈ η → p ∈ η') (k : WS κr P l π N n w0 S σ η' q) : WS κr P l π N n w0 S σ η ((i, .x late) :: q) :=
  ws_x ho hg fun hπ a w hs => by
    have hrun : (execOp a.eval ⟨none, .store T x y, ty, pos, aft, g⟩).run P w = .ok .skip (World.setBlk w b (.cells cs' E (0, 0))) := by
      simp [execOp, hs.sl.ev hx, hs.sl.ev hy, Instr.storeAt, Instr.sureAddr, hw.go w b E (hs.hp _ _ hm.go)]
    unfold OW
    rw [hrun]
    have h1 : St n w0 S σ η' a (World.setBlk w b (.cells cs' E (0, 0))) := ⟨hs.df, hs.sz, hs.sl, hu.go w hs.hp hs.nd, by rw [hu.nd]; exact hs.nd, hs.on.setBlk b _ hb⟩
    exact ⟨fun _ => h1.hp.mono fun p hp => hπ' p hp (hπ p hp), k (fun p hp => hπ' p hp (hπ p hp)) a _ h1⟩

/-- when only late operations are left, nothing need be protected -/
theorem seq_late {ops : Array Oper} {Pi Pi' : World → Prop} : ∀ (q : List (Nat × Kd)) (a : Act) (w : World), q.all (fun p => p.2.isL) = true → wpSeq κr P ops Pi N q a w → wpSeq κr P ops Pi' N q a w
  | [], _, _, _, h => h
  | (i, .r) :: q, _, _, hq, _ => by simp [Kd.isL] at hq
  | (i, .x false) :: q, _, _, hq, _ => by simp [Kd.isL] at hq
  | (i, .b _) :: q, _, _, hq, _ => by simp [Kd.isL] at hq
  | (i, .x true) :: q, a, w, hq, h => by
    exact wpO_mono (fun a' w' h' => seq_late q a' w' (by simp [Kd.isL] at hq ⊢; exact hq) h') h
theorem ws_late (hq : q.all (fun p => p.2.isL) = true) (k : WS κr P l [] N n w0 S σ η q) : WS κr P l π N n w0 S σ η q := fun _ a w hs => seq_late q a w hq (k (fun _ hp => by cases hp) a w hs)

/-! ### calls -/
/-- the contract of a call: it returns; only the blocks of S' and new ones have turned; Φ holds of the value and the world -/
def Ret (P : Program) (f : FuncId) (args : List Value) (w : World) (S' : List Nat) (Φ : Value → World → Prop) : Prop :=
  Calls P f args.toArray w fun e w' => ∃ v, e = .returned v ∧ Only S' w w' ∧ Φ v w'
theorem Ret.mono {f : FuncId} {args : List Value} {w : World} {S' S'' : List Nat} {Φ Φ' : Value → World → Prop} (h : Ret P f args w S' Φ) (hS : ∀ b ∈ S', b ∈ S'') (hΦ : ∀ v w', Only S' w w' → Φ v w' → Φ' v w') :
    Ret P f args w S'' Φ' := Calls.mono h fun _ w' ⟨v, he, ho, hp⟩ => ⟨v, he, ho.mono hS, hΦ v w' ho hp⟩

/-- what is left of the heap facts when the blocks of S' may have turned -/
class HD (S' : List Nat) (η : Heap) (η' : outParam Heap) : Prop where
  sub : List.Sublist η' η
  far : (η.map Prod.fst).Nodup → ∀ b ∈ S', b ∉ η'.map Prod.fst
instance HD.nil (η : Heap) : HD [] η η := ⟨List.Sublist.refl _, fun _ b hb => by cases hb⟩
class HDel (b : Nat) (η : Heap) (η' : outParam Heap) : Prop where
  sub : List.Sublist η' η
  far : (η.map Prod.fst).Nodup → b ∉ η'.map Prod.fst
class HMem (b : Nat) (η : Heap) : Prop where
  go : b ∈ η.map Prod.fst
instance HMem.tail (b : Nat) (p : Nat × Obj) (η : Heap) [h : HMem b η] : HMem b (p :: η) := ⟨by have := h.go; simp at this ⊢; exact .inr this⟩
instance HMem.head (b : Nat) (o : Obj) (η : Heap) : HMem b ((b, o) :: η) := ⟨by simp⟩
instance HDel.tail (b : Nat) (p : Nat × Obj) (η η' : Heap) [hm : HMem b η] [h : HDel b η η'] : HDel b (p :: η) (p :: η') := ⟨h.sub.cons_cons p, fun hn => by
  rw [List.map_cons, List.nodup_cons] at hn
  simp only [List.map_cons, List.mem_cons, not_or]
  exact ⟨fun e => hn.1 (by rw [← e]; exact hm.go), h.far hn.2⟩⟩
instance HDel.head (b : Nat) (o : Obj) (η : Heap) : HDel b ((b, o) :: η) η := ⟨List.sublist_cons_self _ _, fun h => (List.nodup_cons.1 h).1⟩
instance HD.cons (b : Nat) (S' : List Nat) (η η1 η2 : Heap) [h : HDel b η η1] [h2 : HD S' η1 η2] : HD (b :: S') η η2 := ⟨h2.sub.trans h.sub, fun hn c hc => by
  rcases List.mem_cons.1 hc with rfl | hc
  · exact fun hm => h.far hn ((h2.sub.map Prod.fst).subset hm)
  · exact h2.far (hn.sublist (h.sub.map Prod.fst)) c hc⟩

theorem HpOK.only {η : Heap} {w w' : World} {S' : List Nat} (h : HpOK η w) (ho : Only S' w w') (hf : ∀ b ∈ S', b ∉ η.map Prod.fst) : HpOK η w' := fun b o hm => by
  rw [ho.blk b (h.lt hm) (fun hb => hf b hb (List.mem_map.2 ⟨_, hm, rfl⟩))]
  exact h b o hm

/-- the step from a call's end: v its value, ν new heap facts -/
theorem ws_call {x : Operand} {xs : List Operand} {ts : Array TypeId} {f : FuncId} {cb : Array Value} {args : List Value} {S' : List Nat} {η1 : Heap} {Φ : World → Value → World → Prop}
    (ho : opAt l i = some ⟨some d, .call { callee := .value x, args := xs.toArray, argTypes := ts }, ty, pos, aft, g⟩) (hdn : Nat.blt d n.n = true) (hg : gd l σ g = some true)
    (hx : ev σ x = some (.func (.func f) #[] cb)) (hxs : evs σ xs = some args) (hen : ∀ args w, (callFunc f args).run P w = .ok (.enter f args) w)
    (hc : ∀ w, HpOK η w → (η.map Prod.fst).Nodup → Only S w0 w → Ret P f (args ++ cb.toList) w S' (Φ w)) [hd : HD S' η η1] (hS : ∀ b ∈ S', w0.heap.size ≤ b ∨ b ∈ S) (hπ' : (∀ p ∈ π, p ∈ η) → ∀ p ∈ π, p ∈ η1)
    (k : ∀ v w w', HpOK η w → Only S w0 w → Only S' w w' → HpOK η1 w' → Φ w v w' → ∃ ν : Heap, HpOK ν w' ∧ (ν.map Prod.fst).Nodup ∧ (∀ b ∈ ν.map Prod.fst, w.heap.size ≤ b ∨ b ∈ S') ∧ WS κr P l π N n w0 S ((d, v) :: σ) (ν ++ η1) q) :
    WS κr P l π N n w0 S σ η ((i, .x late) :: q) :=
  ws_x ho hg fun hπ a w hs => by
    have e : xs.toArray.map a.eval = args.toArray := by rw [List.map_toArray, hs.sl.evs hxs]
    have hrun : (execOp a.eval ⟨some d, .call { callee := .value x, args := xs.toArray, argTypes := ts }, ty, pos, aft, g⟩).run P w = .ok (.enter f (args ++ cb.toList).toArray) w := by
      have hfv : a.eval x = .func (.func f) #[] cb := hs.sl.ev hx
      simp only [execOp, resolve, e, hfv, Deferred.ofValue]
      simp [invoke, hen]
    unfold OW
    rw [hrun]
    refine ⟨fun _ => Nat.le_refl 1, callsIn_of (Calls.mono (hc w hs.hp hs.nd hs.on) fun e w' ⟨v, he, hon, hphi⟩ => ?_)⟩
    subst he
    have h1 : HpOK η1 w' := (hs.hp.mono fun _ h => hd.sub.subset h).only hon (hd.far hs.nd)
    obtain ⟨ν, hν, hnd, hfar, hk⟩ := k v w w' hs.hp hs.on hon h1 hphi
    have hn1 : (η1.map Prod.fst).Nodup := hs.nd.sublist (hd.sub.map Prod.fst)
    have hst : St n w0 S ((d, v) :: σ) (ν ++ η1) (a.put (some d) v) w' := by
      have h0 : St n w0 S σ (ν ++ η1) a w' := ⟨hs.df, hs.sz, hs.sl, hν.append h1, by
        rw [List.map_append, List.nodup_append]
        refine ⟨hnd, hn1, fun b hb c hc hbc => ?_⟩
        subst hbc
        rcases hfar b hb with h | h
        · obtain ⟨⟨c, o⟩, hm, rfl⟩ := List.mem_map.1 hc
          have := hs.hp.lt (hd.sub.subset hm)
          simp at h
          omega
        · exact hd.far hs.nd b h hc, hs.on.trans hon hS⟩
      exact h0.put v hdn
    have hsub : ∀ p ∈ π, p ∈ ν ++ η1 := fun p hp => List.mem_append_right _ (hπ' hπ p hp)
    exact ⟨fun _ => hst.hp.mono hsub, hk hsub _ _ hst⟩
end

/-! ### a function's entry and its end -/
section
variable {P : Program}
def zipSlots : List Value → Nat → Slots
  | [], _ => []
  | v :: r, i => (i, v) :: zipSlots r (i + 1)
theorem lk_zip : ∀ (vs : List Value) (i t : Nat) (v : Value), lk (zipSlots vs i) t = some v → i ≤ t ∧ vs[t - i]? = some v
  | [], _, _, _, h => by simp [zipSlots, lk] at h
  | u :: r, i, t, v, h => by
    simp only [zipSlots, lk] at h
    cases hb : Nat.beq i t with
    | true => rw [hb] at h; simp at h; subst h; have := Nat.eq_of_beq_eq_true hb; subst this; simp
    | false =>
      rw [hb] at h
      have hne := Nat.ne_of_beq_eq_false hb
      obtain ⟨h1, h2⟩ := lk_zip r (i + 1) t v (by simpa using h)
      refine ⟨by omega, ?_⟩
      rw [show t - i = (t - (i + 1)) + 1 by omega]
      simpa using h2
/-- the walk of a function begins -/
theorem enter {f : FuncId} {fn : Func} {c : Code} {args : List Value} {w : World} {n : Fm} {R : Ending → World → Prop} (S : List Nat) (η : Heap) (hf : P.funcs[f]? = some fn) (hb : fn.body = some c) (hn : fn.ntmps = n.n) (hlen : Nat.ble args.length n.n = true)
    (hη : HpOK η w) (hnd : (η.map Prod.fst).Nodup) (h : WC none P (bodyPost P fn R) n w S (zipSlots args 0) η c) (hdl : n.dl = [] := by rfl) : Calls P f args.toArray w R := by
  have hle : args.length ≤ n.n := by simpa using hlen
  refine calls_of_wp hf hb ((wpIn_wide (n := 1)).1 (h _ w ⟨hdl.symm, ?_, ?_, hη, hnd, Only.refl S w⟩))
  · simp [hn]; omega
  · intro t v hv
    obtain ⟨_, h2⟩ := lk_zip args 0 t v hv
    have ht : t < args.length := (List.getElem?_eq_some_iff.1 h2).1
    simp only [Nat.sub_zero] at h2
    rw [Array.getElem?_append_left (by simpa using ht)]
    simpa using h2

/-- the value of a result -/
def rv (tmps : Array Value) : ResultVar → Sem Value
  | .tmp t => pure (tmps.getD t undef)
  | .cell a t => do loadVar t (← asAddr (tmps.getD a undef))
class RV (P : Program) (σ : Slots) (η : Heap) (r : ResultVar) (v : outParam Value) : Prop where
  go : ∀ (tmps : Array Value) w, SlOK σ { tmps, defers := [] } → HpOK η w → (rv tmps r).run P w = .ok v w
theorem RV.tmp {σ : Slots} {η : Heap} {t : Nat} {v : Value} (h : lk σ t = some v) : RV P σ η (.tmp t) v := ⟨fun tmps w hs _ => by have := hs t v h; simp at this; simp [rv, this]⟩
theorem RV.cell {σ : Slots} {η : Heap} {t b : Nat} {T E : TypeId} {cs : Array Value} {fr : Nat × Nat} {v : Value} (h : lk σ t = some (.pointer (some ⟨b, 0, none⟩))) [hm : HM b (.cells cs E fr) η] [hr : ReadsAt P T cs 0 v] : RV P σ η (.cell t T) v :=
  ⟨fun tmps w hs hp => by have := hs t _ h; simp at this; simp [rv, this, asAddr, hr.go w b E fr (hp _ _ hm.go)]⟩
theorem results_rv (fn : Func) (tmps : Array Value) : results fn tmps = (do let vs ← fn.results.mapM (rv tmps); pure (if h : vs.size = 1 then vs[0] else .tuple vs)) := by
  rfl

theorem qe_body {fn : Func} {R : Ending → World → Prop} {n : Fm} {w0 : World} {S : List Nat} {σ : Slots} {η : Heap} {e : Exit} (v : Value) (he : e = .ret ∨ e = .normal)
    (hr : ∀ tmps w, SlOK σ { tmps, defers := [] } → HpOK η w → (results fn tmps).run P w = .ok v w) (h : ∀ w, HpOK η w → (η.map Prod.fst).Nodup → Only S w0 w → R (.returned v) w) (hdl : n.dl = [] := by rfl) : QE (bodyPost P fn R) e n w0 S σ η := fun a w hs => by
  have h1 : a.defers = [] ∧ ∃ v, (results fn a.tmps).run P w = .ok v w ∧ R (.returned v) w := ⟨hs.df.trans hdl, v, hr a.tmps w hs.sl hs.hp, h w hs.hp hs.nd hs.on⟩
  rcases he with rfl | rfl <;> exact h1
theorem res0 {fn : Func} {σ : Slots} {η : Heap} (h : fn.results = #[]) (tmps : Array Value) (w : World) (_ : SlOK σ { tmps, defers := [] }) (_ : HpOK η w) : (results fn tmps).run P w = .ok (.tuple #[]) w := by
  simp [results, h]
theorem res1 {fn : Func} {σ : Slots} {η : Heap} {r : ResultVar} {v : Value} (h : fn.results = #[r]) (hv : RV P σ η r v) (tmps : Array Value) (w : World) (hs : SlOK σ { tmps, defers := [] }) (hp : HpOK η w) : (results fn tmps).run P w = .ok v w := by
  rw [results_rv, h]; simp [hv.go tmps w hs hp]
theorem res2 {fn : Func} {σ : Slots} {η : Heap} {r1 r2 : ResultVar} {v1 v2 : Value} (h : fn.results = #[r1, r2]) (h1 : RV P σ η r1 v1) (h2 : RV P σ η r2 v2) (tmps : Array Value) (w : World) (hs : SlOK σ { tmps, defers := [] }) (hp : HpOK η w) :
    (results fn tmps).run P w = .ok (.tuple #[v1, v2]) w := by
  rw [results_rv, h]; simp [h1.go tmps w hs hp, h2.go tmps w hs hp]
theorem res3 {fn : Func} {σ : Slots} {η : Heap} {r1 r2 r3 : ResultVar} {v1 v2 v3 : Value} (h : fn.results = #[r1, r2, r3]) (h1 : RV P σ η r1 v1) (h2 : RV P σ η r2 v2) (h3 : RV P σ η r3 v3) (tmps : Array Value) (w : World) (hs : SlOK σ { tmps, defers := [] }) (hp : HpOK η w) :
    (results fn tmps).run P w = .ok (.tuple #[v1, v2, v3]) w := by
  rw [results_rv, h]; simp [h1.go tmps w hs hp, h2.go tmps w hs hp, h3.go tmps w hs hp]
theorem res4 {fn : Func} {σ : Slots} {η : Heap} {r1 r2 r3 r4 : ResultVar} {v1 v2 v3 v4 : Value} (h : fn.results = #[r1, r2, r3, r4]) (h1 : RV P σ η r1 v1) (h2 : RV P σ η r2 v2) (h3 : RV P σ η r3 v3) (h4 : RV P σ η r4 v4) (tmps : Array Value) (w : World) (hs : SlOK σ { tmps, defers := [] }) (hp : HpOK η w) :
    (results fn tmps).run P w = .ok (.tuple #[v1, v2, v3, v4]) w := by
  rw [results_rv, h]; simp [h1.go tmps w hs hp, h2.go tmps w hs hp, h3.go tmps w hs hp, h4.go tmps w hs hp]
end

theorem FieldAt.of {P : Program} {s : TypeId} {f : Nat} {fs : Array Field} {k : Nat} (hu : P.underlying s = some (.struct fs)) (tt off : Nat) (hf : (fs[f]?).map (fun F => (F.type, F.offset)) = some (tt, off)) (hz : ∀ w, (sizeOf tt).run P w = .ok k w) (hk : Nat.beq k 0 = false) : FieldAt P s f off := by
  cases hF : fs[f]? with
  | none => rw [hF] at hf; cases hf
  | some F =>
    rw [hF] at hf
    simp only [Option.map_some, Option.some.injEq, Prod.mk.injEq] at hf
    obtain ⟨rfl, rfl⟩ := hf
    exact FieldAt.mk' F hu hF hz hk

/-! ### tests, both ways; pointers against nil -/
@[reducible] def cmpP : BinOp → Int → Int → Prop
  | .eql, x, y => x = y
  | .neq, x, y => x ≠ y
  | .lss, x, y => x < y
  | .leq, x, y => x ≤ y
  | .gtr, x, y => y < x
  | .geq, x, y => y ≤ x
  | _, _, _ => True
def isCmp : BinOp → Bool
  | .eql | .neq | .lss | .leq | .gtr | .geq => true
  | _ => false
section
variable {κr : Option Nat} {P : Program} {n : Fm} {w0 : World} {S : List Nat} {σ : Slots} {η π φ : Heap} {l : List Oper} {N : Act → World → Prop} {q : List (Nat × Kd)} {late : Bool} {i : Nat}
  {ty : TypeId} {pos : String} {aft : Array Edge} {g : Option (Nat × Bool)} {d : Nat} {dst : Option Tmp}
theorem rd_cmp_t {op : BinOp} {T U : TypeId} {x y : Operand} {k : IntKind} {m n : Int} (hx : ev σ x = some (.int k m)) (hy : ev σ y = some (.int k n)) (hc : isCmp op = true) (h : cmpP op m n) : Rd P σ φ ⟨dst, .binOp op T x y U, ty, pos, aft, g⟩ (.bool true) :=
  rd_cmp true hx hy (by cases op <;> simp [cmpP, isCmp, cmpB] at h hc ⊢ <;> assumption)
theorem rd_cmp_f {op : BinOp} {T U : TypeId} {x y : Operand} {k : IntKind} {m n : Int} (hx : ev σ x = some (.int k m)) (hy : ev σ y = some (.int k n)) (hc : isCmp op = true) (h : ¬ cmpP op m n) : Rd P σ φ ⟨dst, .binOp op T x y U, ty, pos, aft, g⟩ (.bool false) :=
  rd_cmp false hx hy (by cases op <;> simp [cmpP, isCmp, cmpB] at h hc ⊢ <;> omega)
theorem ws_lcmp {op : BinOp} {T U : TypeId} {x y : Operand} {k : IntKind} {m' n' : Int} (ho : opAt l i = some ⟨some d, .binOp op T x y U, ty, pos, aft, g⟩) (hdn : Nat.blt d n.n = true) (hg : gd l σ g = some true)
    (hx : ev σ x = some (.int k m')) (hy : ev σ y = some (.int k n')) (hc : isCmp op = true) (kt : cmpP op m' n' → WS κr P l π N n w0 S ((d, .bool true) :: σ) η q) (kf : ¬ cmpP op m' n' → WS κr P l π N n w0 S ((d, .bool false) :: σ) η q) :
    WS κr P l π N n w0 S σ η ((i, .x late) :: q) := by
  classical
  by_cases h : cmpP op m' n'
  · exact ws_l ho rfl hdn hg (rd_cmp_t hx hy hc h) (kt h)
  · exact ws_l ho rfl hdn hg (rd_cmp_f hx hy hc h) (kf h)
theorem ws_rcmp {op : BinOp} {T U : TypeId} {x y : Operand} {k : IntKind} {m' n' : Int} (ho : opAt l i = some ⟨some d, .binOp op T x y U, ty, pos, aft, g⟩) (hdn : Nat.blt d n.n = true) (hg : gd l σ g = some true)
    (hx : ev σ x = some (.int k m')) (hy : ev σ y = some (.int k n')) (hc : isCmp op = true) (kt : cmpP op m' n' → WS κr P l π N n w0 S ((d, .bool true) :: σ) η q) (kf : ¬ cmpP op m' n' → WS κr P l π N n w0 S ((d, .bool false) :: σ) η q) :
    WS κr P l π N n w0 S σ η ((i, .r) :: q) := by
  classical
  by_cases h : cmpP op m' n'
  · exact ws_r ho rfl hdn hg (rd_cmp_t hx hy hc h) (kt h)
  · exact ws_r ho rfl hdn hg (rd_cmp_f hx hy hc h) (kf h)
theorem rd_ptr_nil {op : BinOp} {T U E : TypeId} {x y : Operand} {A : Addr} {b : Bool} (hx : ev σ x = some (.pointer (some A))) (hy : ev σ y = some (.pointer none)) (hT : P.underlying T = some (.pointer E))
    (hb : (match op with | .eql => some false | .neq => some true | _ => none) = some b) : Rd P σ φ ⟨dst, .binOp op T x y U, ty, pos, aft, g⟩ (.bool b) :=
  rd_bin hx hy fun w => by
    have h : ∀ d, (Op.equalIn (d + 1) T (.pointer (some A)) (.pointer none)).run P w = .ok false w := fun d => by simp [Op.equalIn, run_underlying hT]
    have h' : (Op.equal T (.pointer (some A)) (.pointer none)).run P w = .ok false w := h 9999
    cases op <;> simp at hb <;> subst hb <;> simp [eqGuard, binOp, h']
theorem rd_nil_nil {op : BinOp} {T U E : TypeId} {x y : Operand} {b : Bool} (hx : ev σ x = some (.pointer none)) (hy : ev σ y = some (.pointer none)) (hT : P.underlying T = some (.pointer E))
    (hb : (match op with | .eql => some true | .neq => some false | _ => none) = some b) : Rd P σ φ ⟨dst, .binOp op T x y U, ty, pos, aft, g⟩ (.bool b) :=
  rd_bin hx hy fun w => by
    have h : ∀ d, (Op.equalIn (d + 1) T (.pointer none) (.pointer none)).run P w = .ok true w := fun d => by simp [Op.equalIn, run_underlying hT]
    have h' : (Op.equal T (.pointer none) (.pointer none)).run P w = .ok true w := h 9999
    cases op <;> simp at hb <;> subst hb <;> simp [eqGuard, binOp, h']

/-- a call that only computes: its value is known -/
theorem ws_callp {x : Operand} {xs : List Operand} {ts : Array TypeId} {f : FuncId} {cb : Array Value} {args : List Value} {v : Value}
    (ho : opAt l i = some ⟨some d, .call { callee := .value x, args := xs.toArray, argTypes := ts }, ty, pos, aft, g⟩) (hdn : Nat.blt d n.n = true) (hg : gd l σ g = some true)
    (hx : ev σ x = some (.func (.func f) #[] cb)) (hxs : evs σ xs = some args) (hen : ∀ args w, (callFunc f args).run P w = .ok (.enter f args) w)
    (hc : ∀ w, HpOK η w → (η.map Prod.fst).Nodup → Only S w0 w → Ret P f (args ++ cb.toList) w [] (fun u _ => u = v)) (k : WS κr P l π N n w0 S ((d, v) :: σ) η q) :
    WS κr P l π N n w0 S σ η ((i, .x late) :: q) :=
  ws_call (Φ := fun _ u _ => u = v) ho hdn hg hx hxs hen hc (fun _ h => by cases h) (fun h => h) fun u w w' _ _ _ _ hu => ⟨[], HpOK.nil _, by simp, by simp, by subst hu; exact k⟩
/-- .. its value is a Bool: both ways -/
theorem ws_callb {x : Operand} {xs : List Operand} {ts : Array TypeId} {f : FuncId} {cb : Array Value} {args : List Value} (b : Bool)
    (ho : opAt l i = some ⟨some d, .call { callee := .value x, args := xs.toArray, argTypes := ts }, ty, pos, aft, g⟩) (hdn : Nat.blt d n.n = true) (hg : gd l σ g = some true)
    (hx : ev σ x = some (.func (.func f) #[] cb)) (hxs : evs σ xs = some args) (hen : ∀ args w, (callFunc f args).run P w = .ok (.enter f args) w)
    (hc : ∀ w, HpOK η w → (η.map Prod.fst).Nodup → Only S w0 w → Ret P f (args ++ cb.toList) w [] (fun u _ => u = .bool b)) (kt : b = true → WS κr P l π N n w0 S ((d, .bool true) :: σ) η q) (kf : b = false → WS κr P l π N n w0 S ((d, .bool false) :: σ) η q) :
    WS κr P l π N n w0 S σ η ((i, .x late) :: q) := by
  cases b
  · exact ws_callp ho hdn hg hx hxs hen hc (kf rfl)
  · exact ws_callp ho hdn hg hx hxs hen hc (kt rfl)
end
/-- a function's number is that of a function with a body -/
class En (P : Program) (f : FuncId) : Prop where
  go : ∀ args w, (callFunc f args).run P w = .ok (.enter f args) w
/-- the end of a contract 'Ret' -/
theorem ret_end {w0 : World} {S : List Nat} {η : Heap} {v : Value} {Φ : Value → World → Prop} (h : ∀ w, HpOK η w → (η.map Prod.fst).Nodup → Only S w0 w → Φ v w) :
    ∀ w, HpOK η w → (η.map Prod.fst).Nodup → Only S w0 w → (fun (e : Ending) (w' : World) => ∃ v, e = .returned v ∧ Only S w0 w' ∧ Φ v w') (.returned v) w := fun w hp hn ho => ⟨v, rfl, ho, h w hp hn ho⟩
theorem st_keep {n : Fm} {w0 : World} {S : List Nat} {σ : Slots} {η η' : Heap} {a : Act} {w : World} (h : St n w0 S σ η a w) (σ' : Slots) (hk : getAll σ (σ'.map Prod.fst) = σ'.map (fun p => some p.2)) (hs : ∀ p ∈ η', p ∈ η) (hn : (η'.map Prod.fst).Nodup) : St n w0 S σ' η' a w :=
  ⟨h.df, h.sz, fun t v ht => h.sl t v (lk_of_getAll σ' hk t v ht), h.hp.mono hs, hn, h.on⟩
theorem wc_at {κr : Option Nat} {P : Program} {Q : Exit → Act → World → Prop} {n : Fm} {w0 : World} {S : List Nat} {σ : Slots} {η : Heap} {a : Act} {w : World} {c : Code} (hs : St n w0 S σ η a w) (h : WC κr P Q n w0 S σ η c) : c.wpIn (Fr κr) 1 P Q a w := h a w hs

/-! ### stores and arrays -/
theorem setRow_setBlk (w : World) (b : Nat) (cs cs' : Array Value) (E : TypeId) (hb : w.heap[b]? = some (.cells cs E (0, 0))) : w.setRow b cs' = World.setBlk w b (.cells cs' E (0, 0)) := by
  have hlt := (Array.getElem?_eq_some_iff.1 hb).1
  have hv := (Array.getElem?_eq_some_iff.1 hb).2
  simp only [World.setRow, World.setBlk]
  congr 1
  apply Array.ext_getElem?
  intro j
  by_cases hj : b = j
  · subst hj
    rw [Array.getElem?_modify, if_pos rfl, hb, Array.getElem?_setIfInBounds_self_of_lt hlt]
    rfl
  · rw [Array.getElem?_modify, if_neg hj, Array.getElem?_setIfInBounds_ne hj]
theorem WritesAt.of {P : Program} {T : TypeId} {cs cs' : Array Value} {off k : Nat} {v : Value} (hS : ∀ w, (sizeOf T).run P w = .ok k w) (hv : v.cells.size = k) (h1 : ∀ u ∈ v.cells.toList, u.oneCell' = true) (hle : off + k ≤ cs.size)
    (hcs : cs' = (cs.toList.take off ++ v.cells.toList ++ cs.toList.drop (off + k)).toArray) : WritesAt P T cs off v cs' := ⟨fun w b E hb => by
  have hr := run_storeCells_at P b off E v.cells.toList 0 cs w hb (by simp; omega) h1
  simp only [Nat.add_zero, Array.length_toList, hv] at hr
  rw [← hcs, setRow_setBlk w b cs cs' E hb] at hr
  simp [storeVar, Sem.run_bind, hS, hv, hr]⟩
class OneC (v : Value) : Prop where
  go : v.oneCell' = true
  cells : v.cells = #[v]
instance OneC.int (k : IntKind) (m : Int) : OneC (.int k m) := ⟨rfl, rfl⟩
instance OneC.bool (b : Bool) : OneC (.bool b) := ⟨rfl, rfl⟩
instance OneC.ptr (p : Option Addr) : OneC (.pointer p) := ⟨rfl, rfl⟩
instance OneC.slice (p : Option Addr) (m c : Nat) : OneC (.slice p m c) := ⟨rfl, rfl⟩
instance OneC.map (r : Option Nat) : OneC (.map r) := ⟨rfl, rfl⟩
instance OneC.str (s : ByteArray) : OneC (.string s) := ⟨rfl, rfl⟩
instance OneC.func (f : Fn) (a c : Array Value) : OneC (.func f a c) := ⟨rfl, rfl⟩
instance OneC.nilFunc : OneC .nilFunc := ⟨rfl, rfl⟩
class SetAt (cs : Array Value) (i : Nat) (v : Value) (cs' : outParam (Array Value)) : Prop where
  lt : i + 1 ≤ cs.size
  go : cs' = (cs.toList.take i ++ [v] ++ cs.toList.drop (i + 1)).toArray
instance SetAt.head (u v : Value) (l : List Value) : SetAt (List.toArray (u :: l)) 0 v (List.toArray (v :: l)) := ⟨by simp, by simp⟩
instance SetAt.tail (u v : Value) (l l' : List Value) (i : Nat) [h : SetAt (List.toArray l) i v (List.toArray l')] : SetAt (List.toArray (u :: l)) (i + 1) v (List.toArray (u :: l')) := ⟨by have := h.lt; simp at this ⊢; omega, by
  have := h.go
  simp at this ⊢
  exact this⟩
class ScalarS (P : Program) (T : TypeId) : Prop where
  sz : ∀ w, (sizeOf T).run P w = .ok 1 w
instance WritesAt.scalar {P : Program} {T : TypeId} {cs cs' : Array Value} {off : Nat} {v : Value} [hT : ScalarS P T] [hv : OneC v] [hg : SetAt cs off v cs'] : WritesAt P T cs off v cs' :=
  WritesAt.of hT.sz (by rw [hv.cells]; rfl) (by rw [hv.cells]; simp [hv.go]) hg.lt (by rw [hv.cells]; exact hg.go)
/-- the store of a whole block -/
theorem WritesAt.whole {P : Program} {T : TypeId} {cs cs' : Array Value} {k : Nat} (hS : ∀ w, (sizeOf T).run P w = .ok k w) (hk : cs'.size = k) (hc : cs.size = k) (h1 : ∀ u ∈ cs'.toList, u.oneCell' = true) : WritesAt P T cs 0 (.agg cs') cs' :=
  WritesAt.of hS hk h1 (by omega) (by
    have : cs.toList.drop k = [] := by rw [List.drop_eq_nil_iff]; simp; omega
    simp [Value.cells, this])

/-! ### slices of one's own -/
instance HM.app (b : Nat) (o : Obj) (ν η : Heap) [h : HM b o η] : HM b o (ν ++ η) := ⟨List.mem_append_right _ h.go⟩
instance HMem.app (b : Nat) (ν η : Heap) [h : HMem b η] : HMem b (ν ++ η) := ⟨by have := h.go; rw [List.map_append]; exact List.mem_append_right _ this⟩
instance HDel.app (b : Nat) (ν η η' : Heap) [hm : HMem b η] [h : HDel b η η'] : HDel b (ν ++ η) (ν ++ η') := ⟨h.sub.append_left ν, fun hn => by
  rw [List.map_append, List.nodup_append] at hn
  rw [List.map_append, List.mem_append, not_or]
  exact ⟨fun e => hn.2.2 b e b hm.go rfl, h.far hn.2.1⟩⟩
instance HU.app (b : Nat) (o o' : Obj) (ν η η' : Heap) [h : HU b o o' η η'] : HU b o o' (ν ++ η) (ν ++ η') := ⟨List.mem_append_right _ h.mem, fun w hp hn => by
  rw [List.map_append, List.nodup_append] at hn
  refine HpOK.append (HpOK.setBlk_far (fun c x hm => hp c x (List.mem_append_left _ hm)) (fun hm => ?_) o') (h.go w (fun c x hm => hp c x (List.mem_append_right _ hm)) hn.2.1)
  exact hn.2.2 b hm b (List.mem_map.2 ⟨_, h.mem, rfl⟩) rfl, by simp [h.nd]⟩
instance HM.one (b : Nat) (o : Obj) (η : Heap) : HM b o ([(b, o)] ++ η) := ⟨by simp⟩
instance HMem.one (b : Nat) (o : Obj) (η : Heap) : HMem b ([(b, o)] ++ η) := ⟨by simp⟩
instance HDel.one (b : Nat) (o : Obj) (η : Heap) : HDel b ([(b, o)] ++ η) η := HDel.head b o η
instance HU.one (b : Nat) (o o' : Obj) (η : Heap) : HU b o o' ([(b, o)] ++ η) ([(b, o')] ++ η) := HU.head b o o' η
/-- the slice v of n elements of k cells each reads xs; its block, if there is one, is ν -/
def OwnR (base : Nat) (E : TypeId) (k : Nat) (v : Value) (ν : Heap) (n : Nat) (xs : List Value) : Prop :=
  (v = .slice none 0 0 ∧ ν = [] ∧ n = 0 ∧ xs = []) ∨
  ∃ g cap cur, v = .slice (some ⟨g, 0, none⟩) n cap ∧ ν = [(g, .cells cur E (0, 0))] ∧ base ≤ g ∧ n ≤ cap ∧ cap ≤ maxLen ∧ cur.size = cap * k ∧ cur.toList.take (n * k) = xs ∧ xs.length = n * k
theorem OwnR.nil (base : Nat) (E : TypeId) (k : Nat) : OwnR base E k (.slice none 0 0) [] 0 [] := .inl ⟨rfl, rfl, rfl, rfl⟩
theorem OwnR.owns {base : Nat} {E : TypeId} {k : Nat} {v : Value} {ν : Heap} {n : Nat} {xs : List Value} {w : World} (h : OwnR base E k v ν n xs) (hp : HpOK ν w) : w.ownsRow base E k v n xs := by
  rcases h with ⟨rfl, rfl, rfl, rfl⟩ | ⟨g, cap, cur, rfl, rfl, h1, h2, h3, h4, h5, h6⟩
  · exact World.ownsRow_nil w base E k
  · exact ⟨h6, .inr ⟨g, cap, cur, rfl, h1, hp g _ (by simp), h2, h3, h4, h5⟩⟩
theorem OwnR.of {base : Nat} {E : TypeId} {k : Nat} {v : Value} {n : Nat} {xs : List Value} {w : World} (h : w.ownsRow base E k v n xs) : ∃ ν, OwnR base E k v ν n xs ∧ HpOK ν w ∧ (ν.map Prod.fst).Nodup ∧ ∀ b ∈ ν.map Prod.fst, v.ownBlock = some b := by
  rcases h.2 with ⟨rfl, rfl⟩ | ⟨g, cap, cur, rfl, h1, h2, h3, h4, h5, h6⟩
  · exact ⟨[], .inl ⟨rfl, rfl, rfl, List.eq_nil_of_length_eq_zero (by simpa using h.1)⟩, HpOK.nil w, by simp, by simp⟩
  · exact ⟨[(g, .cells cur E (0, 0))], .inr ⟨g, cap, cur, rfl, rfl, h1, h3, h4, h5, h6, h.1⟩, fun b o hm => by simp at hm; obtain ⟨rfl, rfl⟩ := hm; exact h2, by simp, by simp [Value.ownBlock]⟩
theorem OwnR.blocks {base : Nat} {E : TypeId} {k : Nat} {v : Value} {ν : Heap} {n : Nat} {xs : List Value} (h : OwnR base E k v ν n xs) : v.ownBlock = none ∧ ν = [] ∨ ∃ g o, v.ownBlock = some g ∧ ν = [(g, o)] ∧ base ≤ g := by
  rcases h with ⟨rfl, rfl, rfl, rfl⟩ | ⟨g, cap, cur, rfl, rfl, h1, _⟩
  · exact .inl ⟨rfl, rfl⟩
  · exact .inr ⟨g, _, rfl, rfl, h1⟩
theorem OwnR.len {base : Nat} {E : TypeId} {k : Nat} {v : Value} {ν : Heap} {n : Nat} {xs : List Value} (h : OwnR base E k v ν n xs) : xs.length = n * k := by
  rcases h with ⟨rfl, rfl, rfl, rfl⟩ | ⟨g, cap, cur, rfl, rfl, _, _, _, _, _, h6⟩
  · simp
  · exact h6
theorem OwnR.mono {base base' : Nat} {E : TypeId} {k : Nat} {v : Value} {ν : Heap} {n : Nat} {xs : List Value} (h : OwnR base E k v ν n xs) (hb : base' ≤ base) : OwnR base' E k v ν n xs := by
  rcases h with h | ⟨g, cap, cur, h0, h1, h2, h3⟩
  · exact .inl h
  · exact .inr ⟨g, cap, cur, h0, h1, Nat.le_trans hb h2, h3⟩
class HRep (ν ν' η : Heap) (η' : outParam Heap) : Prop where
  go : ∃ α β, η = α ++ (ν ++ β) ∧ η' = α ++ (ν' ++ β)
instance HRep.tail (ν ν' : Heap) (p : Nat × Obj) (η η' : Heap) [h : HRep ν ν' η η'] : HRep ν ν' (p :: η) (p :: η') := ⟨by
  obtain ⟨α, β, h1, h2⟩ := h.go
  exact ⟨p :: α, β, by rw [h1]; rfl, by rw [h2]; rfl⟩⟩
instance HRep.app (ν ν' μ η η' : Heap) [h : HRep ν ν' η η'] : HRep ν ν' (μ ++ η) (μ ++ η') := ⟨by
  obtain ⟨α, β, h1, h2⟩ := h.go
  exact ⟨μ ++ α, β, by rw [h1, List.append_assoc], by rw [h2, List.append_assoc]⟩⟩
instance HRep.head (ν ν' η : Heap) : HRep ν ν' (ν ++ η) (ν' ++ η) := ⟨[], η, rfl, rfl⟩
class SliceT (P : Program) (T : TypeId) (E : outParam TypeId) (k bytes : outParam Nat) : Prop where
  ht : P.underlying T = some (.slice E)
  info : ∃ i z, P.info? E = some i ∧ i.zero = some z ∧ i.size = k ∧ i.bytes = bytes ∧ z.cells.size = k
  pos : 0 < k
section
variable {κr : Option Nat} {P : Program} {n : Fm} {w0 : World} {S : List Nat} {σ : Slots} {η π : Heap} {l : List Oper} {N : Act → World → Prop} {q : List (Nat × Kd)} {late : Bool} {i : Nat}
  {ty : TypeId} {pos : String} {aft : Array Edge} {g : Option (Nat × Bool)} {d : Nat}
theorem ws_appendB {base : Nat} {T E : TypeId} {k bytes : Nat} [hT : SliceT P T E k bytes] {s x : Operand} {v : Value} {ν : Heap} {η' : Heap → Heap} {len m c b : Nat} {xs : List Value} {news : Array Value} {E' : TypeId} {fr : Nat × Nat}
    (ho : opAt l i = some ⟨some d, .call { callee := .builtin .append, args := #[s, x], argTypes := #[T, T] }, ty, pos, aft, g⟩) (hdn : Nat.blt d n.n = true) (hg : gd l σ g = some true)
    (hs' : ev σ s = some v) (hx : ev σ x = some (.slice (some ⟨b, 0, none⟩) m c)) (hown : OwnR base E k v ν len xs) [hm : HM b (.cells news E' fr) η] [hrep : ∀ ν', HRep ν ν' η (η' ν')]
    (hl : news.size = m * k) (h1 : ∀ u ∈ news.toList, u.oneCell' = true) (hbase : base ≤ w0.heap.size) (hfar0 : ∀ b ∈ ν.map Prod.fst, w0.heap.size ≤ b ∨ b ∈ S) (h63 : len + m ≤ maxLen) (hby : (len + m) * bytes ≤ 140737488355328) (hπ' : ∀ ν', (∀ p ∈ π, p ∈ η) → ∀ p ∈ π, p ∈ η' ν')
    (kk : ∀ v' ν', OwnR base E k v' ν' (len + m) (xs ++ news.toList) → (∀ b ∈ ν'.map Prod.fst, w0.heap.size ≤ b ∨ b ∈ ν.map Prod.fst) → WS κr P l π N n w0 S ((d, v') :: σ) (η' ν') q) : WS κr P l π N n w0 S σ η ((i, .x late) :: q) :=
  ws_x ho hg fun hπ a w hs => by
    obtain ⟨inf, z, hi, hz, hsz, hb, hzc⟩ := hT.info
    obtain ⟨α, β, e1, _⟩ := (hrep []).go
    have hpν : HpOK ν w := hs.hp.mono fun p hp => by rw [e1]; exact List.mem_append_right _ (List.mem_append_left _ hp)
    have hnews : ∀ j u, news.toList[j]? = some u → w.cell? ((⟨b, 0, none⟩ : Addr).add j) = some u := fun j u hu => by
      rw [add_plain]
      simp only [World.cell?, hs.hp _ _ hm.go, Option.isSome_none, Bool.false_eq_true, if_false, Nat.zero_add]
      simpa using hu
    obtain ⟨v', w', hrun, hown', hgr, _, hblk⟩ := run_append_own_at (P := P) w base T ty E inf z k bytes hT.ht hi hz hsz hb hzc hT.pos v len xs (hown.owns hpν) ⟨b, 0, none⟩ m c news.toList (by simpa using hl) hnews h1 h63 hby (Nat.le_trans hbase hs.on.size)
    have hrun' : (execOp a.eval ⟨some d, .call { callee := .builtin .append, args := #[s, x], argTypes := #[T, T] }, ty, pos, aft, g⟩).run P w = .ok (.value v') w' := by
      simp only [execOp, resolve, invoke, builtin, Sem.run_bind, Sem.run_pure, Result.andThen_ok, List.map_toArray, List.map_cons, List.map_nil, hs.sl.ev hs', hs.sl.ev hx, hrun]
    unfold OW
    rw [hrun']
    obtain ⟨ν', hν', hp', hnd', hbk⟩ := OwnR.of hown'
    obtain ⟨α', β', e1', e2'⟩ := (hrep ν').go
    have hnd0 := hs.nd
    rw [e1', List.map_append, List.map_append, List.nodup_append, List.nodup_append] at hnd0
    obtain ⟨hna, ⟨hnν, hnβ, hνβ⟩, haνβ⟩ := hnd0
    have hown_blk : ∀ b', v.ownBlock = some b' → b' ∈ ν.map Prod.fst := fun b' hb' => by
      rcases hown.blocks with ⟨h0, _⟩ | ⟨g0, o0, h0, h00, _⟩
      · rw [h0] at hb'; cases hb'
      · rw [h0] at hb'; cases hb'; rw [h00]; simp
    have keep : ∀ μ : Heap, HpOK μ w → (∀ b' ∈ ν.map Prod.fst, b' ∉ μ.map Prod.fst) → HpOK μ w' := fun μ hμ hf b' o' hm' => by
      rw [hgr.block b' (hμ.lt hm') (fun e => hf b' (hown_blk b' e.symm) (List.mem_map.2 ⟨_, hm', rfl⟩))]
      exact hμ b' o' hm'
    have hpα : HpOK α' w := hs.hp.mono fun p hp => by rw [e1']; exact List.mem_append_left _ hp
    have hpβ : HpOK β' w := hs.hp.mono fun p hp => by rw [e1']; exact List.mem_append_right _ (List.mem_append_right _ hp)
    have hpη' : HpOK (η' ν') w' := by
      rw [e2']
      refine (keep α' hpα fun b' hb' hm' => haνβ b' hm' b' (List.mem_append_left _ hb') rfl).append (hp'.append (keep β' hpβ fun b' hb' hm' => hνβ b' hb' b' hm' rfl))
    have hfar : ∀ b' ∈ ν'.map Prod.fst, b' ∈ ν.map Prod.fst ∨ w.heap.size ≤ b' := fun b' hb' => by
      have h2 := hbk b' hb'
      rcases hblk with h3 | h3
      · exact .inl (hown_blk b' (by rw [← h3]; exact h2))
      · rw [h3] at h2; cases h2; exact .inr (Nat.le_refl _)
    have hnd1 : ((η' ν').map Prod.fst).Nodup := by
      rw [e2', List.map_append, List.map_append, List.nodup_append, List.nodup_append]
      refine ⟨hna, ⟨hnd', hnβ, fun x hx y hy hxy => ?_⟩, fun x hx y hy hxy => ?_⟩
      · subst hxy
        rcases hfar x hx with h | h
        · exact hνβ x h x hy rfl
        · exact hpβ.not_mem h hy
      · subst hxy
        rcases List.mem_append.1 hy with h | h
        · rcases hfar x h with h | h
          · exact haνβ x hx x (List.mem_append_left _ h) rfl
          · exact hpα.not_mem h hx
        · exact haνβ x hx x (List.mem_append_right _ h) rfl
    have hon : Only S w0 w' := by
      refine hs.on.trans (S' := ν.map Prod.fst) ⟨hgr.os, hgr.tape, hgr.output, hgr.size, fun b' hb' hn' => hgr.block b' hb' (fun e => hn' (hown_blk b' e.symm)), run_drawn _ _ hrun⟩ hfar0
    have h0 : St n w0 S σ (η' ν') a w' := ⟨hs.df, hs.sz, hs.sl, hpη', hnd1, hon⟩
    have hsub := hπ' ν' hπ
    exact ⟨fun _ => hpη'.mono hsub, kk v' ν' hν' (fun b' hb' => (hfar b' hb').elim .inr (fun h => .inl (Nat.le_trans hs.on.size h))) hsub _ _ (h0.put v' hdn)⟩
theorem ws_append {T E : TypeId} {k bytes : Nat} [hT : SliceT P T E k bytes] {s x : Operand} {v : Value} {ν : Heap} {η' : Heap → Heap} {len m c b : Nat} {xs : List Value} {news : Array Value} {E' : TypeId} {fr : Nat × Nat}
    (ho : opAt l i = some ⟨some d, .call { callee := .builtin .append, args := #[s, x], argTypes := #[T, T] }, ty, pos, aft, g⟩) (hdn : Nat.blt d n.n = true) (hg : gd l σ g = some true)
    (hs' : ev σ s = some v) (hx : ev σ x = some (.slice (some ⟨b, 0, none⟩) m c)) (hown : OwnR w0.heap.size E k v ν len xs) [hm : HM b (.cells news E' fr) η] [hrep : ∀ ν', HRep ν ν' η (η' ν')]
    (hl : news.size = m * k) (h1 : ∀ u ∈ news.toList, u.oneCell' = true) (h63 : len + m ≤ maxLen) (hby : (len + m) * bytes ≤ 140737488355328) (hπ' : ∀ ν', (∀ p ∈ π, p ∈ η) → ∀ p ∈ π, p ∈ η' ν')
    (kk : ∀ v' ν', OwnR w0.heap.size E k v' ν' (len + m) (xs ++ news.toList) → WS κr P l π N n w0 S ((d, v') :: σ) (η' ν') q) : WS κr P l π N n w0 S σ η ((i, .x late) :: q) :=
  ws_appendB (base := w0.heap.size) ho hdn hg hs' hx hown hl h1 (Nat.le_refl _) (fun b' hb' => by
    rcases hown.blocks with ⟨_, h0⟩ | ⟨g0, o0, _, h00, h1⟩
    · rw [h0] at hb'; simp at hb'
    · rw [h00] at hb'; simp at hb'; subst hb'; exact .inl h1) h63 hby hπ' (fun v' ν' h _ => kk v' ν' h)
end
theorem SliceT.of {P : Program} {T E : TypeId} {k bytes : Nat} (ht : P.underlying T = some (.slice E)) (hi : (P.info? E).bind (fun i => i.zero.map (fun z => (z.cells.size, i.size, i.bytes))) = some (k, k, bytes)) (hk : Nat.blt 0 k = true) : SliceT P T E k bytes := by
  refine ⟨ht, ?_, by simpa using hk⟩
  cases h : P.info? E with
  | none => rw [h] at hi; cases hi
  | some i =>
    rw [h] at hi
    simp only [Option.bind_some] at hi
    cases hz : i.zero with
    | none => rw [hz] at hi; cases hi
    | some z =>
      rw [hz] at hi
      simp only [Option.map_some, Option.some.injEq, Prod.mk.injEq] at hi
      exact ⟨i, z, rfl, hz, hi.2.1, hi.2.2, hi.1⟩

/-! ### struct and array literals -/
def splice (cs : Array Value) (off : Nat) (vs : Array Value) : Array Value := (cs.toList.take off ++ vs.toList ++ cs.toList.drop (off + vs.size)).toArray
theorem foldl_splice : ∀ (l : List Value) (k off : Nat) (cs : Array Value), off + k + l.length ≤ cs.size →
    (l.zipIdx k).foldl (fun (cs : Array Value) (p : Value × Nat) => cs.setIfInBounds (off + p.2) p.1) cs = (cs.toList.take (off + k) ++ l ++ cs.toList.drop (off + k + l.length)).toArray
  | [], k, off, cs, _ => by simp
  | v :: r, k, off, cs, h => by
    simp only [List.length_cons] at h
    rw [List.zipIdx_cons, List.foldl_cons, foldl_splice r (k + 1) off _ (by simp; omega)]
    apply Array.ext'
    simp only [Array.toList_setIfInBounds, List.length_cons]
    rw [show off + (k + 1) + r.length = off + k + (r.length + 1) by omega, show off + (k + 1) = off + k + 1 by omega]
    rw [List.drop_set_of_lt (by omega)]
    congr 1
    rw [List.take_set, List.set_eq_take_append_cons_drop]
    rw [if_pos (by simp; omega)]
    rw [List.take_take, show min (off + k) (off + k + 1) = off + k by omega]
    rw [List.drop_eq_nil_of_le (by simp; omega)]
    simp
theorem splice_right (A B vs : Array Value) (k : Nat) (m : Nat) (hm : m = A.size + k) : splice (A ++ B) m vs = A ++ splice B k vs := by
  subst hm
  apply Array.ext'
  simp only [splice, Array.toList_append]
  rw [List.take_append, List.drop_append]
  rw [List.take_of_length_le (by simp), List.drop_eq_nil_of_le (by simp; omega)]
  simp [show A.size + k + vs.size - A.size = k + vs.size by omega]
theorem splice_left (A B A' : Array Value) (h : A'.size = A.size) : splice (A ++ B) 0 A' = A' ++ B := by
  apply Array.ext'
  simp only [splice, Array.toList_append, List.take_zero, List.nil_append, Nat.zero_add, h]
  rw [List.drop_left' (by simp)]
def fillS (z : Array Value) : List (Nat × Array Value) → Array Value
  | [] => z
  | (off, vs) :: r => fillS (splice z off vs) r
/-- the parts at their places -/
def placed (place : Nat → Option (Nat × Nat)) : List (Nat × Value) → Option (List (Nat × Array Value))
  | [] => some []
  | (i, v) :: r => match place i with
    | some (off, size) => match placed place r with
      | some l => if v.cells.size = size then some ((off, v.cells) :: l) else none
      | none => none
    | none => none
theorem fill_eq (place : Nat → Option (Nat × Nat)) : ∀ (ps : List (Nat × Value)) (z : Array Value) (l : List (Nat × Array Value)), placed place ps = some l → (∀ p ∈ l, p.1 + p.2.size ≤ z.size) → Instr.fill place z ps = some (fillS z l)
  | [], z, l, h, _ => by simp [placed] at h; subst h; rfl
  | (i, v) :: r, z, l, h, hs => by
    simp only [placed] at h
    split at h
    · rename_i off size hp
      split at h
      · rename_i l' hl'
        split at h
        · rename_i hsz
          cases h
          have h1 := hs (off, v.cells) (by simp)
          simp only at h1
          simp only [Instr.fill, hp]
          rw [if_neg (by simp [hsz]; omega)]
          have e : v.cells.zipIdx.foldl (fun cs (c, j) => cs.setIfInBounds (off + j) c) z = splice z off v.cells := by
            have := foldl_splice v.cells.toList 0 off z (by simp; omega)
            rw [← Array.foldl_toList, Array.toList_zipIdx]
            simpa [splice] using this
          rw [e, fill_eq place r _ l' hl' (fun p hp' => ?_)]
          · rfl
          · have := hs p (List.mem_cons_of_mem _ hp')
            simp only [splice, List.size_toArray, List.length_append, List.length_take, List.length_drop, Array.length_toList]
            omega
        · cases h
      · cases h
    · cases h
def sizesOf (P : Program) (fs : Array Field) : Array (Nat × Nat) := fs.map fun f => (f.offset, P.cellsOf f.type)
theorem run_places (P : Program) (w : World) : ∀ (fs : List Field), fs.all (fun f => (P.info? f.type).isSome) = true → (fs.mapM (fun f => (do pure (f.offset, ← sizeOf f.type) : Sem (Nat × Nat)))).run P w = .ok (fs.map fun f => (f.offset, P.cellsOf f.type)) w
  | [], _ => by simp
  | f :: r, h => by
    simp only [List.all_cons, Bool.and_eq_true] at h
    have ih := run_places P w r h.2
    obtain ⟨i, hi⟩ := Option.isSome_iff_exists.1 h.1
    have hs : (sizeOf f.type).run P w = .ok (P.cellsOf f.type) w := by simp [sizeOf, typeInfo, hi, Program.cellsOf]
    rw [List.mapM_cons]
    simp only [Sem.run_bind, hs, Result.andThen_ok, Sem.run_pure, List.map_cons]
    rw [ih]
    simp
theorem Builds.struct {P : Program} {T : TypeId} {ps : List (Nat × Value)} {cs z : Array Value} {fs : Array Field} (hz : ZeroOf P T z) (hu : P.underlying T = some (.struct fs)) (hall : fs.toList.all (fun f => (P.info? f.type).isSome) = true)
    (pl : Array (Nat × Nat)) (hpl : sizesOf P fs = pl) (l : List (Nat × Array Value)) (hl : placed (pl[·]?) ps = some l) (hs : ∀ p ∈ l, p.1 + p.2.size ≤ z.size) (hc : fillS z l = cs) : Builds P T ps cs := ⟨fun w => by
  obtain ⟨zv, h1, h2⟩ := hz.go
  have hm := run_places P w fs.toList hall
  have hm' : (fs.mapM (fun f => (do pure (f.offset, ← sizeOf f.type) : Sem (Nat × Nat)))).run P w = .ok pl w := by
    rw [Array.mapM_eq_mapM_toList]
    simp only [map_eq_pure_bind, Sem.run_bind, hm, Result.andThen_ok, Sem.run_pure]
    rw [← hpl]
    congr 1
    apply Array.ext'
    simp [sizesOf]
  simp only [Instr.build, Sem.run_bind, h1, Result.andThen_ok, run_underlying hu w, h2]
  rw [hm']
  simp only [Result.andThen_ok]
  have hf := fill_eq (pl[·]?) ps z l hl hs
  rw [hf, hc]
  rfl⟩
theorem Builds.array {P : Program} {T E : TypeId} {m k : Nat} {ps : List (Nat × Value)} {cs z : Array Value} (hz : ZeroOf P T z) (hu : P.underlying T = some (.array m E)) (hE : ∀ w, (sizeOf E).run P w = .ok k w)
    (l : List (Nat × Array Value)) (hl : placed (fun i => some (i * k, k)) ps = some l) (hs : ∀ p ∈ l, p.1 + p.2.size ≤ z.size) (hc : fillS z l = cs) : Builds P T ps cs := ⟨fun w => by
  obtain ⟨zv, h1, h2⟩ := hz.go
  simp only [Instr.build, Sem.run_bind, h1, Result.andThen_ok, run_underlying hu w, h2, hE]
  have hf := fill_eq (fun i => some (i * k, k)) ps z l hl hs
  rw [hf, hc]
  rfl⟩
theorem BuildsS.one {P : Program} {T E : TypeId} {k : Nat} {v z : Value} {cs : Array Value} (ht : P.underlying T = some (.slice E)) (hE : ∀ w, (sizeOf E).run P w = .ok k w) (hk : Nat.blt 0 k = true) (hk2 : Nat.ble k 1000 = true)
    (hz : ∀ w, (zeroValue E).run P w = .ok z w) (hc : v.cells = cs) (hs : cs.size = k) : BuildsS P T 1 [(0, v)] E cs := ⟨fun w => by
  have hk' : 0 < k := by simpa using hk
  have hk3 : k ≤ 1000 := by simpa using hk2
  subst hc
  have hfill : ∀ Z : Array Value, Z.size = k → Instr.fill (fun i => some (i * k, k)) Z [(0, v)] = some v.cells := fun Z hZ => by
    rw [fill_eq (fun i => some (i * k, k)) [(0, v)] Z [(0, v.cells)] (by simp [placed, hs]) (by simp [hs, hZ])]
    simp only [fillS, splice]
    congr 1
    apply Array.ext'
    simp only [List.take_zero, List.nil_append, Nat.zero_add, hs]
    rw [List.drop_eq_nil_of_le (by simp [hZ])]
    simp
  simp only [Instr.buildSlice, Sem.run_bind, run_underlying ht w, Result.andThen_ok, hE]
  rw [if_neg (by omega), if_neg (by omega)]
  simp only [Sem.run_bind, Sem.run_pure, hz, Result.andThen_ok]
  rw [hfill _ (by simp)]
  simp [newRow, newObj, Sem.run]⟩
end Go.Sx
