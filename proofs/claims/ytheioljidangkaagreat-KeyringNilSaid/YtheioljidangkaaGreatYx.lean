/- A range over a function: rounds, yield's call, the loop's statement, the marks at a function's end. No conditions: general lemmas. -/
import Derived.Test.YtheioljidangkaaGreatBx
namespace Go.Sx
open Go Go.RowKit
instance PickA.nil (η : Heap) : PickA [] η η := ⟨List.Perm.refl _⟩
instance PickA.cons (p : Nat × Obj) (ν η η1 η2 : Heap) [h1 : Pick p η η1] [h2 : PickA ν η1 η2] : PickA (p :: ν) η η2 := ⟨h1.go.trans (h2.go.cons p)⟩
theorem OwnR.oneC {base : Nat} {E : TypeId} {k : Nat} {v : Value} {ν : Heap} {n : Nat} {xs : List Value} (h : OwnR base E k v ν n xs) : OneC v := by
  rcases h with ⟨rfl, _⟩ | ⟨g, cap, cur, rfl, _⟩ <;> infer_instance
theorem OwnR.cellsOf {base : Nat} {E : TypeId} {k : Nat} {v : Value} {ν : Heap} {n : Nat} {xs : List Value} (h : OwnR base E k v ν n xs) : CellsOf v #[v] := by
  rcases h with ⟨rfl, _⟩ | ⟨g, cap, cur, rfl, _⟩ <;> infer_instance
theorem Src.oneC {η : Heap} {u : Value} {k m : Nat} {news : List Value} (h : Src η u k m news) : OneC u := by
  rcases h.2 with ⟨rfl, _⟩ | ⟨A, c, rfl, _⟩ <;> infer_instance
theorem Src.cellsOf {η : Heap} {u : Value} {k m : Nat} {news : List Value} (h : Src η u k m news) : CellsOf u #[u] := by
  rcases h.2 with ⟨rfl, _⟩ | ⟨A, c, rfl, _⟩ <;> infer_instance
/-- facts ν have turned into ν': only their blocks have, and new ones -/
def Turn (ν : Heap) (w w' : World) (ν' : Heap) : Prop := HpOK ν' w' ∧ (ν'.map Prod.fst).Nodup ∧ Only (ν.map Prod.fst) w w' ∧ ∀ b ∈ ν'.map Prod.fst, w.heap.size ≤ b ∨ b ∈ ν.map Prod.fst
/-- yield is called -/
def YCall (P : Program) (l : Nat) (args : List Value) (w : World) (R : Value → World → Prop) : Prop :=
  ∃ rfn tmps assign body, (Instr.yield l args.toArray).run P w = .ok (.round l rfn tmps assign body) w ∧ RoundIn (Fr none) 0 P l rfn tmps assign body w (fun e w' => ∃ v, e = .returned v ∧ R v w')
/-- what a call of yield does: the facts ν turn, the facts φ stay -/
structure Yields {α : Type} (P : Program) (l : Nat) (enc : α → Value) (xs : List α) (φ : Heap) (J X : List α → Heap → Prop) : Prop where
  go : ∀ pre x rest ν w, xs = pre ++ x :: rest → J pre ν → HpOK (ν ++ φ) w → ((ν ++ φ).map Prod.fst).Nodup → YCall P l [enc x] w (fun v w' => ∃ ν', Turn ν w w' ν' ∧ ((v = .bool true ∧ J (pre ++ [x]) ν') ∨ (v = .bool false ∧ X (pre ++ [x]) ν')))
theorem turn_pick {ν ν' η η1 : Heap} [h : PickA ν η η1] {w w' : World} (hp : HpOK η w) (hn : (η.map Prod.fst).Nodup) (ht : Turn ν w w' ν') : HpOK (ν' ++ η1) w' ∧ ((ν' ++ η1).map Prod.fst).Nodup := by
  obtain ⟨h1, h2, h3, h4⟩ := ht
  have hperm := h.go
  have hpe : HpOK η1 w := hp.mono fun p hq => hperm.mem_iff.2 (List.mem_append_right _ hq)
  have hn2 := (hperm.map Prod.fst).nodup_iff.1 hn
  rw [List.map_append, List.nodup_append] at hn2
  obtain ⟨_, hn1, hd⟩ := hn2
  refine ⟨h1.append (hpe.only h3 fun b hb hm => hd b hb b hm rfl), ?_⟩
  rw [List.map_append, List.nodup_append]
  refine ⟨h2, hn1, fun x hx y hy hxy => ?_⟩
  subst hxy
  rcases h4 x hx with h | h
  · exact hpe.not_mem h hy
  · exact hd x h x hy rfl
section
variable {P : Program} {n : Fm} {w0 : World} {S : List Nat} {σ : Slots} {η π : Heap} {l : List Oper} {N : Act → World → Prop} {q : List (Nat × Kd)} {late : Bool} {i : Nat}
  {ty : TypeId} {pos : String} {aft : Array Edge} {g : Option (Nat × Bool)} {d : Nat}
/-- the step from a call of yield -/
theorem ws_yield {α : Type} {enc : α → Value} {xs pre rest : List α} {e : α} {φ : Heap} {J X : List α → Heap → Prop} {lp : Nat} {ν η1 : Heap} {x y : Operand} {ts : Array TypeId} (hY : Yields P lp enc xs φ J X) (hxs : xs = pre ++ e :: rest) (hJ : J pre ν)
    (ho : opAt l i = some ⟨some d, .call { callee := .value x, args := #[y], argTypes := ts }, ty, pos, aft, g⟩) (hdn : Nat.blt d n.n = true) (hg : gd l σ g = some true) (hx : ev σ x = some (.func (.yield lp) #[] #[])) (hy : ev σ y = some (enc e)) [hpk : PickA ν η η1] [hsub : SubH φ η1]
    (hfar : ∀ b ∈ ν.map Prod.fst, w0.heap.size ≤ b ∨ b ∈ S) (hπ' : (∀ p ∈ π, p ∈ η) → ∀ p ∈ π, p ∈ η1)
    (kt : ∀ ν', J (pre ++ [e]) ν' → (∀ b ∈ ν'.map Prod.fst, w0.heap.size ≤ b ∨ b ∈ S) → WS none P l π N n w0 S ((d, .bool true) :: σ) (ν' ++ η1) q)
    (kf : ∀ ν', X (pre ++ [e]) ν' → (∀ b ∈ ν'.map Prod.fst, w0.heap.size ≤ b ∨ b ∈ S) → WS none P l π N n w0 S ((d, .bool false) :: σ) (ν' ++ η1) q) :
    WS none P l π N n w0 S σ η ((i, .x late) :: q) :=
  ws_x ho hg fun hπ a w hs => by
    have hsv : SubH (ν ++ φ) η := SubH.app ν φ η η1
    obtain ⟨rfn, tmps, assign, body, hyr, hround⟩ := hY.go pre e rest ν w hxs hJ (hs.hp.mono hsv.mem) (hsv.nd hs.nd)
    have hrun : (execOp a.eval ⟨some d, .call { callee := .value x, args := #[y], argTypes := ts }, ty, pos, aft, g⟩).run P w = .ok (.round lp rfn tmps assign body) w := by
      have hfv : a.eval x = .func (.yield lp) #[] #[] := hs.sl.ev hx
      have hav : #[y].map a.eval = [enc e].toArray := by simp [hs.sl.ev hy]
      simp only [execOp, resolve, hav, hfv, Deferred.ofValue]
      simp [invoke, hyr]
    unfold OW
    rw [hrun]
    refine ⟨fun _ => Nat.le_refl 1, RoundIn.mono hround fun en w' ⟨v, he, ν', ht, hv⟩ => ?_⟩
    subst he
    obtain ⟨hp', hn'⟩ := turn_pick (h := hpk) hs.hp hs.nd ht
    have hon : Only S w0 w' := hs.on.trans ht.2.2.1 hfar
    have hfar' : ∀ b ∈ ν'.map Prod.fst, w0.heap.size ≤ b ∨ b ∈ S := fun b hb => by
      rcases ht.2.2.2 b hb with h | h
      · exact .inl (Nat.le_trans hs.on.size h)
      · exact hfar b h
    have h0 : St n w0 S σ (ν' ++ η1) a w' := ⟨hs.df, hs.sz, hs.sl, hp', hn', hon⟩
    have hsub : ∀ p ∈ π, p ∈ ν' ++ η1 := fun p hp => List.mem_append_right _ (hπ' hπ p hp)
    rcases hv with ⟨rfl, hj⟩ | ⟨rfl, hj⟩
    · exact ⟨fun _ => hp'.mono hsub, kt ν' hj hfar' hsub _ _ (h0.put _ hdn)⟩
    · exact ⟨fun _ => hp'.mono hsub, kf ν' hj hfar' hsub _ _ (h0.put _ hdn)⟩
end
section
variable {κr : Option Nat} {P : Program} {n : Fm} {w0 : World} {S : List Nat} {σ : Slots} {η π : Heap} {l : List Oper} {N : Act → World → Prop} {q : List (Nat × Kd)} {late : Bool} {i : Nat}
  {ty : TypeId} {pos : String} {aft : Array Edge} {g : Option (Nat × Bool)} {d : Nat}
/-- a call that may turn the blocks of the facts ν -/
theorem ws_callV (ν : Heap) {x : Operand} {xs : List Operand} {ts : Array TypeId} {f : FuncId} {cb : Array Value} {args : List Value} {η1 : Heap} {Φ : World → Value → World → Prop} [hpk : PickA ν η η1]
    (ho : opAt l i = some ⟨some d, .call { callee := .value x, args := xs.toArray, argTypes := ts }, ty, pos, aft, g⟩) (hdn : Nat.blt d n.n = true) (hg : gd l σ g = some true)
    (hx : ev σ x = some (.func (.func f) #[] cb)) (hxs : evs σ xs = some args) (hen : ∀ args w, (callFunc f args).run P w = .ok (.enter f args) w)
    (hc : ∀ w, HpOK η w → (η.map Prod.fst).Nodup → Only S w0 w → Ret P f (args ++ cb.toList) w (ν.map Prod.fst) (Φ w)) (hS : ∀ b ∈ ν.map Prod.fst, w0.heap.size ≤ b ∨ b ∈ S) (hπ' : (∀ p ∈ π, p ∈ η) → ∀ p ∈ π, p ∈ η1)
    (k : ∀ v w w', HpOK η w → Only S w0 w → Only (ν.map Prod.fst) w w' → HpOK η1 w' → Φ w v w' → ∃ ν' : Heap, HpOK ν' w' ∧ (ν'.map Prod.fst).Nodup ∧ (∀ b ∈ ν'.map Prod.fst, w.heap.size ≤ b ∨ b ∈ ν.map Prod.fst) ∧ WS κr P l π N n w0 S ((d, v) :: σ) (ν' ++ η1) q) :
    WS κr P l π N n w0 S σ η ((i, .x late) :: q) :=
  ws_x ho hg fun hπ a w hs => by
    have e : xs.toArray.map a.eval = args.toArray := by rw [List.map_toArray, hs.sl.evs hxs]
    have hrun : (execOp a.eval ⟨some d, .call { callee := .value x, args := xs.toArray, argTypes := ts }, ty, pos, aft, g⟩).run P w = .ok (.enter f (args ++ cb.toList).toArray) w := by
      have hfv : a.eval x = .func (.func f) #[] cb := hs.sl.ev hx
      simp only [execOp, resolve, e, hfv, Deferred.ofValue]
      simp [invoke, hen]
    unfold OW
    rw [hrun]
    refine ⟨fun _ => Nat.le_refl 1, callsIn_of (Calls.mono (hc w hs.hp hs.nd hs.on) fun e w' ⟨v, he, hon, hphi⟩ => ?_)⟩
    subst he
    have hperm := hpk.go
    have hn2 := (hperm.map Prod.fst).nodup_iff.1 hs.nd
    rw [List.map_append, List.nodup_append] at hn2
    have h1 : HpOK η1 w' := (hs.hp.mono fun p hq => hperm.mem_iff.2 (List.mem_append_right _ hq)).only hon fun b hb hm => hn2.2.2 b hb b hm rfl
    obtain ⟨ν', hν, hnd, hfar, hk⟩ := k v w w' hs.hp hs.on hon h1 hphi
    obtain ⟨hp', hn'⟩ := turn_pick (h := hpk) hs.hp hs.nd ⟨hν, hnd, hon, hfar⟩
    have hst : St n w0 S ((d, v) :: σ) (ν' ++ η1) (a.put (some d) v) w' := (⟨hs.df, hs.sz, hs.sl, hp', hn', hs.on.trans hon hS⟩ : St n w0 S σ (ν' ++ η1) a w').put v hdn
    have hsub : ∀ p ∈ π, p ∈ ν' ++ η1 := fun p hp => List.mem_append_right _ (hπ' hπ p hp)
    exact ⟨fun _ => hst.hp.mono hsub, hk hsub _ _ hst⟩
end
/-! ### a round -/
abbrev recOf (fn : FuncId) (tmps : Array Value) (ps : Array Tmp) (assign body : Code) (D : Nat) (st : LoopState) (pend : Option Code) : Obj := .loop { state := st, pending := pend, fn := fn, tmps := tmps, params := ps, assign := assign, body := body, defers := D }
abbrev dblk : Obj := .deferred (some [])
/-- mk makes the records of loop lp -/
structure LoopRec (P : Program) (lp : Nat) (mk : LoopState → Option Code → Obj) : Prop where
  beg : ∀ w : World, w.heap[lp]? = some (mk .ready none) → (Instr.beginRound lp).run P w = .ok () (World.setBlk w lp (mk .busy none))
  fin : ∀ (w : World) (jump : Option Code), w.heap[lp]? = some (mk .busy none) → (Instr.endRound lp jump).run P w = .ok (.bool jump.isNone) (World.setBlk w lp (mk (if jump.isNone then .ready else .done) jump))
theorem LoopRec.of {P : Program} {lp : Nat} {fn : FuncId} {tmps : Array Value} {ps : Array Tmp} {assign body : Code} {D : Nat} : LoopRec P lp (recOf fn tmps ps assign body D) :=
  ⟨fun w hl => by simp [Instr.beginRound, Instr.getLoop, getObj, setObj, Sem.run_bind, Sem.run, hl, Result.andThen, World.setBlk],
   fun w jump hl => by simp [Instr.endRound, Instr.getLoop, getObj, setObj, Sem.run_bind, Sem.run, hl, Result.andThen, World.setBlk]⟩
section
variable {P : Program} {n : Fm} {w0 : World} {S : List Nat} {σ : Slots} {η η' : Heap} {lp : Nat} {mk : LoopState → Option Code → Obj} {fn : FuncId} {tmps : Array Value} {ps : Array Tmp} {assign body : Code} {D : Nat} {R : Ending → World → Prop}
/-- what a round does behind the assignment -/
def afterAssign (P : Program) (lp : Nat) (body : Code) (R : Ending → World → Prop) : Act → World → Prop := fun a w => ∃ w2, (Instr.beginRound lp).run P w = .ok () w2 ∧ body.wpIn (Fr (some lp)) 1 P (roundPost P lp R) a w2
theorem St.set {a : Act} {w : World} (h : St n w0 S σ η a w) {b : Nat} {o o' : Obj} [hu : HU b o o' η η'] (hb : w0.heap.size ≤ b ∨ b ∈ S) : St n w0 S σ η' a (World.setBlk w b o') :=
  ⟨h.df, h.sz, h.sl, hu.go w h.hp h.nd, by rw [hu.nd]; exact h.nd, h.on.setBlk b _ hb⟩
theorem qe_begin {Q : Exit → Act → World → Prop} (hrec : LoopRec P lp mk) [hm : HM lp (mk .ready none) η] [hu : HU lp (mk .ready none) (mk .busy none) η η'] (hb : w0.heap.size ≤ lp ∨ lp ∈ S)
    (h : WC (some lp) P (roundPost P lp R) n w0 S σ η' body) : QE (Exit.then (afterAssign P lp body R) Q) .normal n w0 S σ η := fun a w hs =>
  ⟨World.setBlk w lp (mk .busy none), hrec.beg w (hs.hp _ _ hm.go), h a _ (hs.set (hu := hu) hb)⟩
theorem run_endLoop {w : World} {st : LoopState} {pend : Option Code} (hst : st = .ready ∨ st = .done) (hl : w.heap[lp]? = some (recOf fn tmps ps assign body D st pend)) :
    (Instr.endLoop lp).run P w = .ok pend (World.setBlk w lp (recOf fn tmps ps assign body D .exhausted pend)) := by
  rcases hst with rfl | rfl <;> simp [Instr.endLoop, Instr.getLoop, getObj, setObj, Sem.run_bind, Sem.run, hl, Result.andThen, World.setBlk] <;> rfl
theorem run_yield {w : World} {st : LoopState} {pend : Option Code} {v : Value} (hps : ps.size = 1) (hl : w.heap[lp]? = some (recOf fn tmps ps assign body D st pend)) :
    (Instr.yield lp #[v]).run P w = .ok (.round lp fn (tmps.setIfInBounds (ps[0]!) v) assign body) w := by
  obtain ⟨l⟩ := ps
  match l, hps with
  | [t], _ => simp [Instr.yield, Instr.getLoop, getObj, Sem.run_bind, Sem.run, hl, Result.andThen]
/-- how a round ends: the facts ν1 (behind the record) have turned -/
def RoundEnd (lp : Nat) (mk : LoopState → Option Code → Obj) (D : Nat) (w : World) (ν1 : Heap) (J : Heap → Prop) (X : Code → Heap → Prop) : Ending → World → Prop := fun e w' =>
  ∃ v, e = .returned v ∧ ∃ st pend ν2, Turn ((lp, mk .ready none) :: (D, dblk) :: ν1) w w' ((lp, mk st pend) :: (D, dblk) :: ν2) ∧
    ((v = .bool true ∧ st = .ready ∧ pend = none ∧ J ν2) ∨ (∃ c, v = .bool false ∧ st = .done ∧ pend = some c ∧ X c ν2))
section
variable {ν1 ν2 : Heap} {J : Heap → Prop} {X : Code → Heap → Prop}
theorem round_end {a : Act} {w : World} (hrec : LoopRec P lp mk) (jump : Option Code) (hs : St n w0 (lp :: D :: ν1.map Prod.fst) σ η a w) (hsub : SubH ((lp, mk .busy none) :: (D, dblk) :: ν2) η)
    (hfar : ∀ b ∈ ν2.map Prod.fst, w0.heap.size ≤ b ∨ b ∈ ν1.map Prod.fst) (hJ : match jump with | none => J ν2 | some c => X c ν2) :
    ∃ v w', (Instr.endRound lp jump).run P w = .ok v w' ∧ RoundEnd lp mk D w0 ν1 J X (.returned v) w' := by
  have hp := hs.hp.mono hsub.mem
  have hn := hsub.nd hs.nd
  refine ⟨_, _, hrec.fin _ jump (hp _ _ (List.mem_cons_self ..)), _, rfl, (if jump.isNone then .ready else .done), jump, ν2, ⟨?_, ?_, ?_, ?_⟩, ?_⟩
  · exact (HU.head lp (mk .busy none) (mk (if jump.isNone then .ready else .done) jump) ((D, dblk) :: ν2)).go w hp hn
  · exact hn
  · exact hs.on.setBlk lp _ (.inr (by simp))
  · intro b hb
    simp only [List.map_cons, List.mem_cons] at hb ⊢
    rcases hb with rfl | rfl | hb
    · exact .inr (.inl rfl)
    · exact .inr (.inr (.inl rfl))
    · rcases hfar b hb with h | h
      · exact .inl h
      · exact .inr (.inr (.inr h))
  · cases jump with
    | none => exact .inl ⟨rfl, rfl, rfl, hJ⟩
    | some c => exact .inr ⟨c, rfl, rfl, rfl, hJ⟩
/-- a round ends: on to the next one -/
theorem qe_next (hrec : LoopRec P lp mk) (ν2 : Heap) [hsub : SubH ((lp, mk .busy none) :: (D, dblk) :: ν2) η] (hfar : ∀ b ∈ ν2.map Prod.fst, w0.heap.size ≤ b ∨ b ∈ ν1.map Prod.fst) (hJ : J ν2) :
    QE (roundPost P lp (RoundEnd lp mk D w0 ν1 J X)) .normal n w0 (lp :: D :: ν1.map Prod.fst) σ η := fun _ _ hs => round_end hrec none hs hsub hfar hJ
theorem qe_rexit {id : Nat} (hrec : LoopRec P lp mk) (ν2 : Heap) [hsub : SubH ((lp, mk .busy none) :: (D, dblk) :: ν2) η] (hfar : ∀ b ∈ ν2.map Prod.fst, w0.heap.size ≤ b ∨ b ∈ ν1.map Prod.fst) (hX : X (.exit id) ν2) :
    QE (roundPost P lp (RoundEnd lp mk D w0 ν1 J X)) (.exit id) n w0 (lp :: D :: ν1.map Prod.fst) σ η := fun _ _ hs => round_end hrec (some (.exit id)) hs hsub hfar hX
theorem qe_rret (hrec : LoopRec P lp mk) (ν2 : Heap) [hsub : SubH ((lp, mk .busy none) :: (D, dblk) :: ν2) η] (hfar : ∀ b ∈ ν2.map Prod.fst, w0.heap.size ≤ b ∨ b ∈ ν1.map Prod.fst) (hX : X .ret ν2) :
    QE (roundPost P lp (RoundEnd lp mk D w0 ν1 J X)) .ret n w0 (lp :: D :: ν1.map Prod.fst) σ η := fun _ _ hs => round_end hrec (some .ret) hs hsub hfar hX
end
end
/-! ### the statement -/
/-- the frame behind an outermost range over a function -/
abbrev Fm.mark (n : Fm) (D : Nat) : Fm := ⟨n.n, ⟨.collected D, #[]⟩ :: n.dl⟩
/-- f with caps ranges over xs in worlds where the facts hold that 'need' tells of -/
def Iter {α : Type} (P : Program) (f : FuncId) (caps : List Value) (enc : α → Value) (xs : List α) (need : Heap → Heap → Prop) : Prop :=
  ∀ (lp : Nat) (J X : List α → Heap → Prop) (ν φ : Heap) (w : World), Yields P lp enc xs φ J X → J [] ν → HpOK (ν ++ φ) w → ((ν ++ φ).map Prod.fst).Nodup → need ν φ →
    Ret P f (.func (.yield lp) #[] #[] :: caps) w (ν.map Prod.fst) (fun _ w' => ∃ ν', HpOK ν' w' ∧ (ν'.map Prod.fst).Nodup ∧ (∀ b ∈ ν'.map Prod.fst, w.heap.size ≤ b ∨ b ∈ ν.map Prod.fst) ∧ (J xs ν' ∨ ∃ pre rest, xs = pre ++ rest ∧ X pre ν'))
section
variable {P : Program} {n : Fm} {w0 : World} {S : List Nat} {σ : Slots} {η : Heap} {Q : Exit → Act → World → Prop}
theorem wc_range {α : Type} {g : Operand} {ps : Array Tmp} {assign body : Code} {f : FuncId} {caps : Array Value} {enc : α → Value} {xs : List α} {need : Heap → Heap → Prop} (ν φ : Heap) [hsub : SubH (ν ++ φ) η] (J : List α → Heap → Prop) (X : List α → Code → Heap → Prop)
    (hx : ev σ g = some (.func (.func f) #[] caps)) (hen : ∀ args w, (callFunc f args).run P w = .ok (.enter f args) w) (hps : ps.size = 1) (hpn : Nat.blt ps[0]! n.n = true) (hfar : ∀ b ∈ ν.map Prod.fst, w0.heap.size ≤ b ∨ b ∈ S)
    (hJ : J [] ν) (hit : Iter P f caps.toList enc xs need) (hneed : ∀ ζ : Heap, (∀ p ∈ ν ++ φ, p ∈ ζ ++ φ) → need ζ φ)
    (hround : ∀ mk D lp pre x rest ν1 w, LoopRec P lp mk → xs = pre ++ x :: rest → J pre ν1 → (∀ b ∈ ν1.map Prod.fst, w0.heap.size ≤ b ∨ b ∈ S) → w0.heap.size ≤ w.heap.size →
      WC (some lp) P (Exit.then (afterAssign P lp body (RoundEnd lp mk D w ν1 (J (pre ++ [x])) (X (pre ++ [x])))) (fun _ _ _ => False)) ⟨n.n, []⟩ w (lp :: D :: ν1.map Prod.fst) ((ps[0]!, enc x) :: σ) ((lp, mk .ready none) :: (D, dblk) :: (ν1 ++ φ)) assign)
    (knorm : ∀ D ν1, w0.heap.size ≤ D → J xs ν1 → (∀ b ∈ ν1.map Prod.fst, w0.heap.size ≤ b ∨ b ∈ S) → QE Q .normal (n.mark D) w0 S σ ((D, dblk) :: (ν1 ++ φ)))
    (kjump : ∀ D pre rest c ν1, w0.heap.size ≤ D → xs = pre ++ rest → X pre c ν1 → (∀ b ∈ ν1.map Prod.fst, w0.heap.size ≤ b ∨ b ∈ S) → WC none P Q (n.mark D) w0 S σ ((D, dblk) :: (ν1 ++ φ)) c) :
    WC none P Q n w0 S σ η (.rangeFunc g ps assign body) := fun a w hs => by
  refine wpIn_rangeFunc fun fn _ => ?_
  let D := w.heap.size
  let w1 := w.alloc dblk
  let lp := w1.heap.size
  let w2 := w1.alloc (recOf fn a.tmps ps assign body D .ready none)
  have hDlp : D < lp := by simp [lp, w1, D]
  have hst : St n w0 S σ ((lp, recOf fn a.tmps ps assign body D .ready none) :: (D, dblk) :: η) a w2 := (hs.alloc dblk).alloc _
  have hsubη : SubH ((lp, recOf fn a.tmps ps assign body D .ready none) :: (D, dblk) :: (ν ++ φ)) ((lp, recOf fn a.tmps ps assign body D .ready none) :: (D, dblk) :: η) := SubH.cons _ _ _ _
  have hpA := hst.hp.mono hsubη.mem
  have hnA := hsubη.nd hst.nd
  have h0D : w0.heap.size ≤ D := hs.on.size
  have h0l : w0.heap.size ≤ lp := by omega
  have hfv : a.eval g = .func (.func f) #[] caps := hs.sl.ev hx
  refine ⟨lp, [⟨.collected D, #[]⟩], w2, ⟨.fn (.func f) caps, #[.func (.yield lp) #[] #[]]⟩, w2, f, #[.func (.yield lp) #[] #[]] ++ caps, w2, ?_, ?_, fun _ _ => trivial, ?_, fun h => by simp [Fr, Fence.wide] at h, ?_⟩
  · rfl
  · have hav : #[Operand.const (.func (.yield lp) #[] #[])].map a.eval = #[.func (.yield lp) #[] #[]] := by simp [Act.eval]
    simp only [resolve, hav, hfv, Deferred.ofValue]
    simp
  · simp [invoke, hen]
  have hY : Yields P lp enc xs φ (fun pre ν' => ∃ ν1, ν' = (lp, recOf fn a.tmps ps assign body D .ready none) :: (D, dblk) :: ν1 ∧ J pre ν1 ∧ (∀ b ∈ ν1.map Prod.fst, w0.heap.size ≤ b ∨ b ∈ S))
      (fun pre ν' => ∃ c ν1, ν' = (lp, recOf fn a.tmps ps assign body D .done (some c)) :: (D, dblk) :: ν1 ∧ X pre c ν1 ∧ (∀ b ∈ ν1.map Prod.fst, w0.heap.size ≤ b ∨ b ∈ S)) := ⟨fun pre x rest ν' wy hxs ⟨ν1, hν', hJ1, hf1⟩ hpy hny => by
    have hlw : lp < wy.heap.size := HpOK.lt hpy (b := lp) (by rw [hν']; exact List.mem_cons_self ..)
    have hl := hpy lp _ (by rw [hν']; exact List.mem_cons_self ..)
    have hst1 : St ⟨n.n, []⟩ wy (lp :: D :: ν1.map Prod.fst) ((ps[0]!, enc x) :: σ) ((lp, recOf fn a.tmps ps assign body D .ready none) :: (D, dblk) :: (ν1 ++ φ)) { tmps := a.tmps.setIfInBounds ps[0]! (enc x), defers := [] } wy :=
      ⟨rfl, by simp [hs.sz], SlOK.put (a := { tmps := a.tmps, defers := [] }) hs.sl (enc x) (by show ps[0]! < a.tmps.size; rw [hs.sz]; simpa using hpn),
        by rw [hν'] at hpy; simpa using hpy, by rw [hν'] at hny; simpa using hny, Only.refl _ _⟩
    have hr := hround (recOf fn a.tmps ps assign body D) D lp pre x rest ν1 wy LoopRec.of hxs hJ1 hf1 (by omega) _ _ hst1
    have h1 : RoundIn (Fr none) 1 P lp fn (a.tmps.setIfInBounds ps[0]! (enc x)) assign body wy (RoundEnd lp (recOf fn a.tmps ps assign body D) D wy ν1 (J (pre ++ [x])) (X (pre ++ [x]))) := roundIn_of_wpIn trivial hr
    have h2 : RoundIn (Fr none) 0 P lp fn (a.tmps.setIfInBounds ps[0]! (enc x)) assign body wy (RoundEnd lp (recOf fn a.tmps ps assign body D) D wy ν1 (J (pre ++ [x])) (X (pre ++ [x]))) := ⟨trivial, fun c cs _ => h1.2 c cs (fun d hd => by cases hd)⟩
    refine ⟨fn, _, assign, body, run_yield hps hl, RoundIn.mono h2 fun e w' ⟨v, he, st, pend, ν2, ht, hv⟩ => ⟨v, he, _, by rw [hν']; exact ht, ?_⟩⟩
    have hf2 : ∀ b ∈ ν2.map Prod.fst, w0.heap.size ≤ b ∨ b ∈ S := fun b hb => by
      have h3 := ht.2.2.2 b (by simp only [List.map_cons, List.mem_cons]; exact .inr (.inr hb))
      simp only [List.map_cons, List.mem_cons] at h3
      rcases h3 with h3 | rfl | rfl | h3
      · exact .inl (by omega)
      · exact .inl h0l
      · exact .inl h0D
      · exact hf1 b h3
    rcases hv with ⟨hv, rfl, rfl, hJ2⟩ | ⟨c, hv, rfl, rfl, hX2⟩
    · exact .inl ⟨hv, ν2, rfl, hJ2, hf2⟩
    · exact .inr ⟨hv, c, ν2, rfl, hX2, hf2⟩⟩
  have hcall := hit lp _ _ ((lp, recOf fn a.tmps ps assign body D .ready none) :: (D, dblk) :: ν) φ w2 hY ⟨ν, rfl, hJ, hfar⟩ hpA hnA (hneed ((lp, recOf fn a.tmps ps assign body D .ready none) :: (D, dblk) :: ν) fun p hp => List.mem_cons_of_mem _ (List.mem_cons_of_mem _ hp))
  have hargs : (Value.func (.yield lp) #[] #[] :: caps.toList).toArray = #[.func (.yield lp) #[] #[]] ++ caps := by
    apply Array.ext'; simp
  unfold Ret at hcall
  rw [hargs] at hcall
  refine callsIn_of (κr := none) (Calls.mono hcall fun e w3 ⟨v, he, hon, ν3, hp3, hn3, hfar3, hend⟩ => ?_)
  subst he
  have hpn3 := turn_pick (h := PickA.head _ φ) (ν' := ν3) hpA hnA ⟨hp3, hn3, hon, hfar3⟩
  have hon3 : Only S w0 w3 := hst.on.trans hon (fun b hb => by
    simp only [List.map_cons, List.mem_cons] at hb
    rcases hb with rfl | rfl | hb
    · exact .inl h0l
    · exact .inl h0D
    · exact hfar b hb)
  have fin : ∀ st pend ν1, ν3 = (lp, recOf fn a.tmps ps assign body D st pend) :: (D, dblk) :: ν1 →
      St (n.mark D) w0 S σ ((D, dblk) :: (ν1 ++ φ)) { a with defers := [⟨.collected D, #[]⟩] ++ a.defers } (World.setBlk w3 lp (recOf fn a.tmps ps assign body D .exhausted pend)) := fun st pend ν1 h3 => by
    subst h3
    have hp' := hpn3.1
    have hn' := hpn3.2
    rw [List.cons_append, List.cons_append, List.map_cons, List.nodup_cons] at hn'
    exact ⟨by show [_] ++ a.defers = _ :: n.dl; rw [hs.df]; rfl, hs.sz, hs.sl, HpOK.setBlk_far (hp'.mono fun p hp => List.mem_cons_of_mem _ hp) hn'.1 _, hn'.2, hon3.setBlk lp _ (.inl h0l)⟩
  rcases hend with ⟨ν1, h3, hJ1, hf1⟩ | ⟨pre, rest, hxs, c, ν1, h3, hX1, hf1⟩
  · have hl := hp3 lp _ (by rw [h3]; exact List.mem_cons_self ..)
    exact ⟨none, _, run_endLoop (.inl rfl) hl, knorm D ν1 h0D hJ1 hf1 _ _ (fin _ _ _ h3)⟩
  · have hl := hp3 lp _ (by rw [h3]; exact List.mem_cons_self ..)
    exact ⟨some c, _, run_endLoop (.inr rfl) hl, kjump D pre rest c ν1 h0D hxs hX1 hf1 _ _ (fin _ _ _ h3)⟩
theorem wc_eqh {κr : Option Nat} {η' : Heap} {c : Code} (h : η = η') (k : WC κr P Q n w0 S σ η' c) : WC κr P Q n w0 S σ η c := by subst h; exact k
theorem qe_eqh {η' : Heap} {e : Exit} (h : η = η') (k : QE Q e n w0 S σ η') : QE Q e n w0 S σ η := by subst h; exact k
theorem split_at {α : Type} {l : List α} {j : Nat} {x : α} (h : l[j]? = some x) : l = l.take j ++ x :: l.drop (j + 1) := by
  rw [← drop_at h, List.take_append_drop]
/-! ### a function whose body holds such a statement: its entry and its ends -/
theorem enterM {f : FuncId} {fn : Func} {c : Code} {args : List Value} {w : World} {n : Fm} {R : Ending → World → Prop} (S : List Nat) (η : Heap) (hf : P.funcs[f]? = some fn) (hb : fn.body = some c) (hn : fn.ntmps = n.n) (hlen : Nat.ble args.length n.n = true)
    (hη : HpOK η w) (hnd : (η.map Prod.fst).Nodup) (h : WC none P (bodyPostM (Fr none) 1 P fn R) n w S (zipSlots args 0) η c) (hdl : n.dl = [] := by rfl) : Calls P f args.toArray w R := by
  have hle : args.length ≤ n.n := by simpa using hlen
  refine (callsIn_wide (n := 1)).1 (callsIn_of_wp_marks hf hb trivial (h _ w ⟨hdl.symm, ?_, ?_, hη, hnd, Only.refl S w⟩))
  · simp [hn]; omega
  · intro t v hv
    obtain ⟨_, h2⟩ := lk_zip args 0 t v hv
    have ht : t < args.length := (List.getElem?_eq_some_iff.1 h2).1
    simp only [Nat.sub_zero] at h2
    rw [Array.getElem?_append_left (by simpa using ht)]
    simpa using h2
theorem qe_bodyM0 {fn : Func} {R : Ending → World → Prop} {e : Exit} (v : Value) (he : e = .ret ∨ e = .normal)
    (hr : ∀ tmps w, SlOK σ { tmps, defers := [] } → HpOK η w → (results fn tmps).run P w = .ok v w) (h : ∀ w, HpOK η w → (η.map Prod.fst).Nodup → Only S w0 w → R (.returned v) w) (hdl : n.dl = [] := by rfl) : QE (bodyPostM (Fr none) 1 P fn R) e n w0 S σ η := fun a w hs => by
  have h1 : LeavesInM (Fr none) 1 P fn a.tmps R a.defers .returning w := by
    rw [hs.df, hdl]
    exact ⟨v, hr a.tmps w hs.sl hs.hp, h w hs.hp hs.nd hs.on⟩
  rcases he with rfl | rfl <;> exact h1
theorem run_takeDeferred {D : Nat} {w : World} (h : w.heap[D]? = some dblk) : (Instr.takeDeferred D).run P w = .ok [] (World.setBlk w D (.deferred none)) := by
  simp [Instr.takeDeferred, getObj, setObj, Sem.run_bind, Sem.run, h, Result.andThen, World.setBlk]
theorem qe_bodyM1 {fn : Func} {R : Ending → World → Prop} {e : Exit} {D : Nat} {η1 : Heap} (hdl : n.dl = [⟨.collected D, #[]⟩]) (hD : w0.heap.size ≤ D) [hm : HM D dblk η] [hd : HDel D η η1] (v : Value) (he : e = .ret ∨ e = .normal)
    (hr : ∀ tmps w, SlOK σ { tmps, defers := [] } → HpOK η1 w → (results fn tmps).run P w = .ok v w) (h : ∀ w, HpOK η1 w → (η1.map Prod.fst).Nodup → Only S w0 w → R (.returned v) w) : QE (bodyPostM (Fr none) 1 P fn R) e n w0 S σ η := fun a w hs => by
  have hp1 : HpOK η1 (World.setBlk w D (.deferred none)) := HpOK.setBlk_far (hs.hp.mono fun _ hp => hd.sub.subset hp) (hd.far hs.nd) _
  have h1 : LeavesInM (Fr none) 1 P fn a.tmps R a.defers .returning w := by
    rw [hs.df, hdl]
    exact ⟨by simp, .inl ⟨D, _, rfl, run_takeDeferred (hs.hp _ _ hm.go), v, hr a.tmps _ hs.sl hp1, h _ hp1 (hs.nd.sublist (hd.sub.map _)) (hs.on.setBlk D _ (.inl hD))⟩⟩
  rcases he with rfl | rfl <;> exact h1
end
end Go.Sx
