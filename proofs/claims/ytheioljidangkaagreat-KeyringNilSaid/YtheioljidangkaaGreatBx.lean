/- Bytes as strings, calls of native functions, tests of a known truth value both ways, heap facts that shrink. No conditions: general lemmas. -/
import Derived.Test.YtheioljidangkaaGreatAx
import Derived.Test.YtheioljidangkaaGreatEx
import Derived.Laws.Externs
import Derived.Laws.BytesArg
import Derived.Laws.IdiomStrings
import Derived.Lib.BytesEntry
import Derived.Lib.Bytealg
import Derived.Sort.Walk0
namespace Go.Sx
open Go Go.RowKit
abbrev I64 (n : Int) : Value := .int .i64 n
/-- cs holds the bytes bs from o on -/
class BytesAt (cs : Array Value) (o n : Nat) (bs : outParam (List UInt8)) : Prop where
  len : bs.length = n
  go : ∀ (j : Nat) (x : UInt8), bs[j]? = some x → cs[o + j]? = some (.int .u8 x.toNat)
section
variable {P : Program} {σ : Slots} {φ : Heap} {dst : Option Tmp} {ty : TypeId} {pos : String} {aft : Array Edge} {g : Option (Nat × Bool)}
theorem bytes_cell {cs : Array Value} {o n : Nat} {bs : List UInt8} (h : BytesAt cs o n bs) {w : World} {b : Nat} {E : TypeId} {fr : Nat × Nat} (hb : w.heap[b]? = some (.cells cs E fr)) (j : Nat) (x : UInt8) (hj : bs[j]? = some x) : w.cell? ((⟨b, o, none⟩ : Addr).add j) = some (.int .u8 x.toNat) := by
  rw [add_plain]
  simp [World.cell?, hb, h.go j x hj]
theorem rd_str {s d E' : TypeId} {x : Operand} {b o n c : Nat} {cs : Array Value} {E : TypeId} {fr : Nat × Nat} {bs : List UInt8} (hx : ev σ x = some (.slice (some ⟨b, o, none⟩) n c)) (hs' : P.underlying s = some (.slice E')) (he : P.underlying E' = some (.int .u8)) (hd : P.underlying d = some .string)
    [hm : HM b (.cells cs E fr) φ] [hb : BytesAt cs o n bs] : Rd P σ φ ⟨dst, .convert s d x, ty, pos, aft, g⟩ (.string ⟨bs.toArray⟩) := fun a w hs hp => by
  have h := run_convert_bytes_back (P := P) w s d E' ⟨b, o, none⟩ c bs hs' he hd (fun j hj => bytes_cell hb (hp _ _ hm.go) j bs[j] (by simp [hj]))
  rw [hb.len] at h
  simp [execOp, hs.ev hx, h]
theorem rd_strlt {T U : TypeId} {x y : Operand} {a b : List UInt8} (hx : ev σ x = some (.string ⟨a.toArray⟩)) (hy : ev σ y = some (.string ⟨b.toArray⟩)) : Rd P σ φ ⟨dst, .binOp .lss T x y U, ty, pos, aft, g⟩ (.bool (decide (a < b))) :=
  rd_bin hx hy fun w => by
    simp [eqGuard, binOp, Op.stringOp, Go.Proofs.bytesLess_eq]
theorem rd_extern {x : Operand} {xs : List Operand} {ts : Array TypeId} {f : FuncId} {fn : Func} {e : Array Value → Sem Value} {args : List Value} {v : Value} (hf : P.funcs[f]? = some fn) (hname : (fn.name == "runtime.NumGoroutine") = false)
    (hb : fn.body.isNone = true) (hn : Extern.findNext fn = none) (he : Extern.find fn = some e) (hx : ev σ x = some (.func (.func f) #[] #[])) (hxs : evs σ xs = some args)
    (hr : ∀ w, HpOK φ w → (e args.toArray).run P w = .ok v w) : Rd P σ φ ⟨dst, .call { callee := .value x, args := xs.toArray, argTypes := ts }, ty, pos, aft, g⟩ v := fun a w hs hp => by
  have h1 : xs.toArray.map a.eval = args.toArray := by rw [List.map_toArray, hs.evs hxs]
  have hfv : a.eval x = .func (.func f) #[] #[] := hs.ev hx
  simp only [execOp, resolve, h1, hfv, Deferred.ofValue]
  simp [invoke, run_callFunc_extern hf hname hb hn he, hr w hp, Result.andThen]
theorem run_bytesOf {w : World} {b o n c : Nat} {cs : Array Value} {E : TypeId} {fr : Nat × Nat} {bs : List UInt8} (hb : w.heap[b]? = some (.cells cs E fr)) [h : BytesAt cs o n bs] : (Extern.Bytes.bytesOf (.slice (some ⟨b, o, none⟩) n c)).run P w = .ok ⟨bs.toArray⟩ w := by
  have hb' := Lib.run_loadBytesX (P := P) w (bs.map fun b => (b.toNat : Int)) ⟨b, o, none⟩ .empty (fun j x hj => by
    simp only [List.getElem?_map, Option.map_eq_some_iff] at hj
    obtain ⟨y, hy, rfl⟩ := hj
    exact bytes_cell h hb j y hy)
  have e1 : Lib.bytesOf (bs.map fun b => (b.toNat : Int)) = bs := by
    simp [Lib.bytesOf, Function.comp_def]
  rw [List.length_map, h.len, e1] at hb'
  simp only [Extern.Bytes.bytesOf, hb']
  have he0 : ByteArray.empty.data = #[] := rfl
  rw [he0]; simp
theorem run_compareBytes {w : World} {b o n c b' o' n' c' : Nat} {cs cs' : Array Value} {E E' : TypeId} {fr fr' : Nat × Nat} {bs bs' : List UInt8} (hb : w.heap[b]? = some (.cells cs E fr)) (hb' : w.heap[b']? = some (.cells cs' E' fr')) [h : BytesAt cs o n bs] [h' : BytesAt cs' o' n' bs'] :
    (Extern.BytealgCompare.compare #[.slice (some ⟨b, o, none⟩) n c, .slice (some ⟨b', o', none⟩) n' c']).run P w = .ok (.int .i64 (Lib.compareBytes bs bs')) w := by
  show Sem.run P (do pure (goInt (Extern.BytealgCompare.cmp (← Extern.Bytes.bytesOf (.slice (some ⟨b, o, none⟩) n c)) (← Extern.Bytes.bytesOf (.slice (some ⟨b', o', none⟩) n' c'))))) w = _
  simp only [Sem.run_bind, run_bytesOf hb, run_bytesOf hb', Result.andThen_ok, Sem.run_pure, Lib.cmp_eq]
  rfl
end
section
variable {κr : Option Nat} {P : Program} {n : Fm} {w0 : World} {S : List Nat} {σ : Slots} {η π : Heap} {l : List Oper} {N : Act → World → Prop} {q : List (Nat × Kd)}
/-- a truth value that is known as a term: both ways -/
theorem ws_rb {i d : Nat} {o : Oper} (b : Bool) (ho : opAt l i = some o) (hd : o.dst = some d) (hdn : Nat.blt d n.n = true) (hg : gd l σ o.guard = some true) (hr : Rd P σ π o (.bool b))
    (kt : b = true → WS κr P l π N n w0 S ((d, .bool true) :: σ) η q) (kf : b = false → WS κr P l π N n w0 S ((d, .bool false) :: σ) η q) : WS κr P l π N n w0 S σ η ((i, .r) :: q) := by
  cases b
  · exact ws_r ho hd hdn hg hr (kf rfl)
  · exact ws_r ho hd hdn hg hr (kt rfl)
theorem ws_lb {late : Bool} {i d : Nat} {o : Oper} (b : Bool) (ho : opAt l i = some o) (hd : o.dst = some d) (hdn : Nat.blt d n.n = true) (hg : gd l σ o.guard = some true) (hr : Rd P σ η o (.bool b))
    (kt : b = true → WS κr P l π N n w0 S ((d, .bool true) :: σ) η q) (kf : b = false → WS κr P l π N n w0 S ((d, .bool false) :: σ) η q) : WS κr P l π N n w0 S σ η ((i, .x late) :: q) := by
  cases b
  · exact ws_l ho hd hdn hg hr (kf rfl)
  · exact ws_l ho hd hdn hg hr (kt rfl)
end
section
variable {κr : Option Nat} {P : Program} {n : Fm} {w0 : World} {S : List Nat} {σ : Slots} {η π : Heap} {l : List Oper} {N : Act → World → Prop} {q : List (Nat × Kd)}
/-- a test whose value is decided by p: both ways -/
theorem ws_rp {i d : Nat} {o : Oper} (p : Prop) [hd' : Decidable p] (ho : opAt l i = some o) (hd : o.dst = some d) (hdn : Nat.blt d n.n = true) (hg : gd l σ o.guard = some true) (hr : Rd P σ π o (.bool (decide p)))
    (kt : p → WS κr P l π N n w0 S ((d, .bool true) :: σ) η q) (kf : ¬ p → WS κr P l π N n w0 S ((d, .bool false) :: σ) η q) : WS κr P l π N n w0 S σ η ((i, .r) :: q) :=
  ws_rb (decide p) ho hd hdn hg hr (fun h => kt (of_decide_eq_true h)) (fun h => kf (of_decide_eq_false h))
theorem ws_lp {late : Bool} {i d : Nat} {o : Oper} (p : Prop) [hd' : Decidable p] (ho : opAt l i = some o) (hd : o.dst = some d) (hdn : Nat.blt d n.n = true) (hg : gd l σ o.guard = some true) (hr : Rd P σ η o (.bool (decide p)))
    (kt : p → WS κr P l π N n w0 S ((d, .bool true) :: σ) η q) (kf : ¬ p → WS κr P l π N n w0 S ((d, .bool false) :: σ) η q) : WS κr P l π N n w0 S σ η ((i, .x late) :: q) :=
  ws_lb (decide p) ho hd hdn hg hr (fun h => kt (of_decide_eq_true h)) (fun h => kf (of_decide_eq_false h))
end
/-- fewer heap facts, in any order -/
class SubH (η' η : Heap) : Prop where
  go : ∃ ζ, η.Perm (η' ++ ζ)
class PickA (ν η : Heap) (η1 : outParam Heap) : Prop where
  go : η.Perm (ν ++ η1)
class Pick (p : Nat × Obj) (η : Heap) (η1 : outParam Heap) : Prop where
  go : η.Perm (p :: η1)
instance PickA.app (ν μ η η1 : Heap) [h : PickA ν η η1] : PickA ν (μ ++ η) (μ ++ η1) := ⟨(h.go.append_left μ).trans (by rw [← List.append_assoc, ← List.append_assoc]; exact List.perm_append_comm.append_right η1)⟩
instance PickA.tail (ν : Heap) (q : Nat × Obj) (η η1 : Heap) [h : PickA ν η η1] : PickA ν (q :: η) (q :: η1) := ⟨(h.go.cons q).trans List.perm_middle.symm⟩
instance PickA.self (ν : Heap) : PickA ν ν [] := ⟨by simp⟩
instance PickA.head (ν η : Heap) : PickA ν (ν ++ η) η := ⟨List.Perm.refl _⟩
instance Pick.app (p : Nat × Obj) (μ η η1 : Heap) [h : Pick p η η1] : Pick p (μ ++ η) (μ ++ η1) := ⟨(h.go.append_left μ).trans List.perm_middle⟩
instance Pick.tail (p q : Nat × Obj) (η η1 : Heap) [h : Pick p η η1] : Pick p (q :: η) (q :: η1) := ⟨(h.go.cons q).trans (List.Perm.swap p q η1)⟩
instance Pick.one (p : Nat × Obj) (η : Heap) : Pick p ([p] ++ η) η := ⟨List.Perm.refl _⟩
instance Pick.head (p : Nat × Obj) (η : Heap) : Pick p (p :: η) η := ⟨List.Perm.refl _⟩
instance SubH.var (ν η η1 : Heap) [h : PickA ν η η1] : SubH ν η := ⟨η1, h.go⟩
instance SubH.nil (η : Heap) : SubH [] η := ⟨η, List.Perm.refl _⟩
instance SubH.app (ν η' η η1 : Heap) [h1 : PickA ν η η1] [h2 : SubH η' η1] : SubH (ν ++ η') η := ⟨h2.go.choose, h1.go.trans (by rw [List.append_assoc]; exact h2.go.choose_spec.append_left ν)⟩
instance SubH.nilA (η' η : Heap) [h : SubH η' η] : SubH ([] ++ η') η := ⟨h.go⟩
instance SubH.cons (p : Nat × Obj) (η' η η1 : Heap) [h1 : Pick p η η1] [h2 : SubH η' η1] : SubH (p :: η') η := ⟨h2.go.choose, h1.go.trans (h2.go.choose_spec.cons p)⟩
instance SubH.refl (η : Heap) : SubH η η := ⟨[], by simp⟩
theorem SubH.mem {η' η : Heap} [h : SubH η' η] : ∀ p ∈ η', p ∈ η := fun p hp => by
  obtain ⟨ζ, hz⟩ := h.go
  exact hz.mem_iff.2 (List.mem_append_left _ hp)
theorem SubH.nd {η' η : Heap} [h : SubH η' η] (hn : (η.map Prod.fst).Nodup) : (η'.map Prod.fst).Nodup := by
  obtain ⟨ζ, hz⟩ := h.go
  have h1 := (hz.map Prod.fst).nodup_iff.1 hn
  rw [List.map_append, List.nodup_append] at h1
  exact h1.1
theorem st_sub {n : Fm} {w0 : World} {S : List Nat} {σ : Slots} {η η' : Heap} {a : Act} {w : World} (h : St n w0 S σ η a w) (σ' : Slots) (hk : getAll σ (σ'.map Prod.fst) = σ'.map (fun p => some p.2)) [hs : SubH η' η] : St n w0 S σ' η' a w :=
  st_keep h σ' hk hs.mem (hs.nd h.nd)
theorem qe_loop {n : Fm} {w0 : World} {S : List Nat} {σ : Slots} {η : Heap} {K : Act → World → Prop} {Q : Exit → Act → World → Prop} (h : ∀ a w, St n w0 S σ η a w → K a w) : QE (Exit.then K Q) .normal n w0 S σ η := h
theorem drop_at {α : Type} {l : List α} {j : Nat} {x : α} (h : l[j]? = some x) : l.drop j = x :: l.drop (j + 1) := by
  obtain ⟨hl, hx⟩ := List.getElem?_eq_some_iff.1 h
  rw [List.drop_eq_getElem_cons hl, hx]
theorem at_ex {α : Type} {l : List α} {j : Nat} (h : j < l.length) : ∃ x, l[j]? = some x := ⟨l[j], List.getElem?_eq_getElem h⟩
section
variable {P : Program} {σ : Slots} {φ : Heap} {dst : Option Tmp} {ty : TypeId} {pos : String} {aft : Array Edge} {g : Option (Nat × Bool)}
/-- the address of element j -/
theorem rd_ix {T E : TypeId} {x ix : Operand} {b len cap k : Nat} {kd : IntKind} {j : Nat} (hx : ev σ x = some (.slice (some ⟨b, 0, none⟩) len cap)) (hi : ev σ ix = some (.int kd j))
    (hT : P.underlying T = some (.slice E)) (hE : ∀ w, (sizeOf E).run P w = .ok k w) (hj : j < len) :
    Rd P σ φ ⟨dst, .indexAddr T x ix, ty, pos, aft, g⟩ (.pointer (some ⟨b, j * k, none⟩)) :=
  rd_index (j * k) hx hi hT hE ⟨by omega, by omega⟩ (by simp)
end
section
variable {P : Program} {σ : Slots} {φ : Heap} {dst : Option Tmp} {ty : TypeId} {pos : String} {aft : Array Edge} {g : Option (Nat × Bool)}
theorem rd_lenO {T E E' : TypeId} {x : Operand} {base k n : Nat} {v : Value} {ν : Heap} {xs : List Value} (h : OwnR base E k v ν n xs) (hx : ev σ x = some v) (hT : P.underlying T = some (.slice E')) :
    Rd P σ φ ⟨dst, .call { callee := .builtin .len, args := #[x], argTypes := #[T] }, ty, pos, aft, g⟩ (I64 n) := by
  rcases h with ⟨rfl, _, rfl, _⟩ | ⟨g, cap, cur, rfl, _⟩
  · exact rd_len hx hT
  · exact rd_len hx hT
end
/-- an empty literal slice -/
theorem BuildsS.zero {P : Program} {T E : TypeId} {k : Nat} (ht : P.underlying T = some (.slice E)) (hE : ∀ w, (sizeOf E).run P w = .ok k w) : BuildsS P T 0 [] E #[] := ⟨fun w => by
  simp [Instr.buildSlice, run_underlying ht, hE, newRow, newObj, Sem.run, Instr.fill, Result.andThen]
  simp [Array.range]⟩
theorem BuildsS.two {P : Program} {T E : TypeId} {u v z : Value} (ht : P.underlying T = some (.slice E)) (hE : ∀ w, (sizeOf E).run P w = .ok 1 w) (hz : ∀ w, (zeroValue E).run P w = .ok z w) (hu : CellsOf u #[u]) (hv : CellsOf v #[v]) : BuildsS P T 2 [(0, u), (1, v)] E #[u, v] := ⟨fun w => by
  have key : ∀ f : Fin 2 → Value, ((Array.ofFn f).setIfInBounds 0 u).setIfInBounds 1 v = #[u, v] := fun f => by
    apply Array.ext'
    simp [List.ofFn_succ]
  simp [Instr.buildSlice, run_underlying ht, hE, hz, newRow, newObj, Sem.run, Instr.fill, hu.go, hv.go, Array.range, Result.andThen, key]⟩
theorem OwnR.nd {base : Nat} {E : TypeId} {k : Nat} {v : Value} {ν : Heap} {n : Nat} {xs : List Value} (h : OwnR base E k v ν n xs) : (ν.map Prod.fst).Nodup := by
  rcases h with ⟨_, rfl, _⟩ | ⟨g, cap, cur, _, rfl, _⟩ <;> simp
theorem OwnR.far {base : Nat} {E : TypeId} {k : Nat} {v : Value} {ν : Heap} {n : Nat} {xs : List Value} (h : OwnR base E k v ν n xs) : ∀ b ∈ ν.map Prod.fst, base ≤ b := by
  rcases h with ⟨_, rfl, _⟩ | ⟨g, cap, cur, _, rfl, hb, _⟩
  · simp
  · intro b hb'; simp at hb'; subst hb'; exact hb
theorem take_at {α : Type} {l : List α} {j : Nat} {x : α} (h : l[j]? = some x) : l.take (j + 1) = l.take j ++ [x] := by
  rw [List.take_add_one, h]; rfl
theorem OwnR.lit0 {base b E k : Nat} (h : base ≤ b) : OwnR base E k (.slice (some ⟨b, 0, none⟩) 0 0) [(b, .cells #[] E (0, 0))] 0 [] :=
  .inr ⟨b, 0, #[], rfl, rfl, h, Nat.le_refl _, by simp [maxLen], by simp, by simp, by simp⟩
end Go.Sx
