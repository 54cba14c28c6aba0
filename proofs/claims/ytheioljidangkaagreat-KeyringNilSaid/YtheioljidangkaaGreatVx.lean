/- More operations: clear of a slice, parts of strings, calls of method values. No conditions: general lemmas. -/
import Derived.Test.YtheioljidangkaaGreatZx
namespace Go.Sx
open Go Go.RowKit
theorem mlook_cons {α β : Type} [DecidableEq α] (k : α) (v : β) (L : List (α × β)) (t : α) : mlook ((k, v) :: L) t = if t = k then some v else mlook L t := by
  by_cases h : t = k
  · simp [mlook, List.lookup, h]
  · have hb : (t == k) = false := by simpa using h
    simp only [mlook, List.lookup, hb, if_neg h]
theorem mlook_map {α β : Type} [DecidableEq α] (L : List (α × β)) (a : α) (b : β) (t : α) : mlook (L.map fun p => if p.1 = a then (a, b) else p) t = if t = a then (if mlook L a = none then none else some b) else mlook L t := by
  induction L with
  | nil => simp [mlook]
  | cons p L ih =>
    obtain ⟨k, v⟩ := p
    rw [List.map_cons, mlook_cons k v L, mlook_cons k v L]
    by_cases hk : k = a
    · subst hk
      rw [if_pos rfl, mlook_cons, ih]
      by_cases ht : t = k <;> simp [ht]
    · rw [if_neg hk, mlook_cons, ih]
      by_cases ht : t = a
      · subst ht
        have h2 : ¬ t = k := fun h => hk h.symm
        simp only [if_neg h2, if_true]
      · simp [ht]
theorem mlook_app {α β : Type} [DecidableEq α] (L : List (α × β)) (a : α) (b : β) (t : α) : mlook (L ++ [(a, b)]) t = if mlook L t = none then (if t = a then some b else none) else mlook L t := by
  induction L with
  | nil => rw [List.nil_append, mlook_cons]; simp [mlook]
  | cons p L ih =>
    obtain ⟨k, v⟩ := p
    rw [List.cons_append, mlook_cons, mlook_cons k v L, ih]
    by_cases ht : t = k
    · simp [ht]
    · simp only [if_neg ht]
theorem mlook_upd {α β : Type} [DecidableEq α] (L : List (α × β)) (a : α) (b : β) (t : α) : mlook (upd L a b) t = if t = a then some b else mlook L t := by
  by_cases hn : mlook L a = none
  · rw [upd_new hn, mlook_app]
    by_cases ht : t = a
    · subst ht; simp [hn]
    · by_cases h : mlook L t = none <;> simp [h, ht]
  · rw [upd, if_neg hn, mlook_map]
    simp [hn]
theorem mlook_filter {α β : Type} [DecidableEq α] (L : List (α × β)) (a t : α) : mlook (L.filter fun p => !decide (p.1 = a)) t = if t = a then none else mlook L t := by
  induction L with
  | nil => simp [mlook]
  | cons p L ih =>
    obtain ⟨k, v⟩ := p
    by_cases hk : k = a
    · subst hk
      rw [List.filter_cons_of_neg (by simp), ih, mlook_cons]
      by_cases ht : t = k <;> simp [ht]
    · rw [List.filter_cons_of_pos (by simp [hk]), mlook_cons, mlook_cons, ih]
      by_cases ht : t = a
      · subst ht; simp [Ne.symm hk]
      · simp [ht]
section
variable {P : Program} {σ : Slots} {φ : Heap} {dst : Option Tmp} {ty : TypeId} {pos : String} {aft : Array Edge} {g : Option (Nat × Bool)}
/-- s[i:j] of a string -/
theorem rd_strslice {T : TypeId} {x l h : Operand} {s u : ByteArray} {kl kh : IntKind} {i j : Nat} (hT : P.underlying T = some .string) (hx : ev σ x = some (.string s)) (hl : ev σ l = some (.int kl i)) (hh : ev σ h = some (.int kh j)) (hij : i ≤ j) (hj : j ≤ s.size) (hu : s.extract i j = u) :
    Rd P σ φ ⟨dst, .slice T x (some l) (some h) none, ty, pos, aft, g⟩ (.string u) := fun a w hs _ => by
  subst hu
  have h1 : ((j : Int)).toNat = j := by omega
  have h2 : ((i : Int)).toNat = i := by omega
  have he : P.underlying (P.elem T) = P.underlying (P.elem T) := rfl
  simp [execOp, hs.ev hx, hs.ev hl, hs.ev hh, Instr.sliceAt, Instr.slice, run_underlying hT, Instr.sliceBounds, Instr.sliceBound, asIntOf, hj, hij]
end
section
variable {κr : Option Nat} {P : Program} {n : Fm} {w0 : World} {S : List Nat} {σ : Slots} {η π : Heap} {l : List Oper} {N : Act → World → Prop} {q : List (Nat × Kd)} {late : Bool} {i : Nat}
  {ty : TypeId} {pos : String} {aft : Array Edge} {g : Option (Nat × Bool)} {d : Nat}
/-- clear of m elements in a block of one's own -/
theorem ws_clear {T E E2 : TypeId} {x : Operand} {b o m c k : Nat} {z : Value} {cur : Array Value} {η' : Array Value → Heap} (ho : opAt l i = some ⟨none, .call { callee := .builtin .clear, args := #[x], argTypes := #[T] }, ty, pos, aft, g⟩) (hg : gd l σ g = some true)
    (hx : ev σ x = some (.slice (some ⟨b, o, none⟩) m c)) (hu : P.underlying T = some (.slice E)) (hz : ∀ w, (zeroValue E).run P w = .ok z w) (hk : z.cells.size = k) (hk0 : 0 < k) (h1 : ∀ v ∈ z.cells.toList, v.oneCell' = true) [hm : HM b (.cells cur E2 (0, 0)) η] (hm0 : 0 < m) (hfit : o + m * k ≤ cur.size)
    [hu' : ∀ cur', HU b (.cells cur E2 (0, 0)) (.cells cur' E2 (0, 0)) η (η' cur')] (hb : w0.heap.size ≤ b ∨ b ∈ S) (hπ' : ∀ cur', ∀ p ∈ π, p ∈ η → p ∈ η' cur')
    (kk : ∀ cur' : Array Value, cur'.size = cur.size → cur'.toList.take o = cur.toList.take o → WS κr P l π N n w0 S σ (η' cur') q) : WS κr P l π N n w0 S σ η ((i, .x late) :: q) :=
  ws_x ho hg fun hπ a w hs => by
    have hbk := hs.hp _ _ hm.go
    have hzs : (Builtin.zeroCells z.cells m).toList.length = m * k := by simp [Builtin.zeroCells, hk]
    have hz1 : ∀ v ∈ (Builtin.zeroCells z.cells m).toList, v.oneCell' = true := fun v hv => by
      simp only [Builtin.zeroCells, Array.toList_map, List.mem_map] at hv
      obtain ⟨j, _, rfl⟩ := hv
      have hlt : j % z.cells.size < z.cells.size := Nat.mod_lt _ (by omega)
      rw [getElem!_pos z.cells _ hlt]
      exact h1 _ (by simp)
    have hst := run_storeCells_at P b o E2 (Builtin.zeroCells z.cells m).toList 0 cur w hbk (by rw [hzs]; omega) hz1
    simp only [Nat.add_zero] at hst
    rw [setRow_setBlk w b cur _ E2 hbk] at hst
    obtain ⟨m', rfl⟩ : ∃ m', m = m' + 1 := ⟨m - 1, by omega⟩
    generalize hcur : (cur.toList.take o ++ (Builtin.zeroCells z.cells (m' + 1)).toList ++ cur.toList.drop (o + (Builtin.zeroCells z.cells (m' + 1)).toList.length)).toArray = cur' at hst
    have hrun' : (execOp a.eval ⟨none, .call { callee := .builtin .clear, args := #[x], argTypes := #[T] }, ty, pos, aft, g⟩).run P w = .ok (.value (.tuple #[])) (World.setBlk w b (.cells cur' E2 (0, 0))) := by
      simp [execOp, resolve, invoke, builtin, hs.sl.ev hx, Builtin.clear_, run_underlying hu, hz, hst]
    unfold OW
    rw [hrun']
    have hu2 := hu' cur'
    have h2 : St n w0 S σ (η' cur') a (World.setBlk w b (.cells cur' E2 (0, 0))) := ⟨hs.df, hs.sz, hs.sl, hu2.go w hs.hp hs.nd, by rw [hu2.nd]; exact hs.nd, hs.on.setBlk b _ hb⟩
    refine ⟨fun _ => h2.hp.mono fun p hp => hπ' cur' p hp (hπ p hp), kk cur' ?_ ?_ (fun p hp => hπ' cur' p hp (hπ p hp)) _ _ h2⟩
    · rw [← hcur, List.size_toArray, List.length_append, List.length_append, List.length_take, List.length_drop, hzs, Array.length_toList]; omega
    · rw [← hcur]
      show ((cur.toList.take o ++ _) ++ _).take o = _
      rw [List.append_assoc, List.take_append_of_le_length (by simp; omega), List.take_of_length_le (by simp; omega)]
/-- a call of a function value with a receiver of its own and captured values: a Bool, both ways -/
theorem ws_callbR {x : Operand} {xs : List Operand} {ts : Array TypeId} {f : FuncId} {rc cb : Array Value} {args : List Value} (b : Bool)
    (ho : opAt l i = some ⟨some d, .call { callee := .value x, args := xs.toArray, argTypes := ts }, ty, pos, aft, g⟩) (hdn : Nat.blt d n.n = true) (hg : gd l σ g = some true)
    (hx : ev σ x = some (.func (.func f) rc cb)) (hxs : evs σ xs = some args) (hen : ∀ args w, (callFunc f args).run P w = .ok (.enter f args) w)
    (hc : ∀ w, HpOK η w → (η.map Prod.fst).Nodup → Only S w0 w → Ret P f (rc.toList ++ args ++ cb.toList) w [] (fun u _ => u = .bool b)) (kt : b = true → WS κr P l π N n w0 S ((d, .bool true) :: σ) η q) (kf : b = false → WS κr P l π N n w0 S ((d, .bool false) :: σ) η q) :
    WS κr P l π N n w0 S σ η ((i, .x late) :: q) :=
  ws_x ho hg fun hπ a w hs => by
    have e : xs.toArray.map a.eval = args.toArray := by rw [List.map_toArray, hs.sl.evs hxs]
    have hrun : (execOp a.eval ⟨some d, .call { callee := .value x, args := xs.toArray, argTypes := ts }, ty, pos, aft, g⟩).run P w = .ok (.enter f (rc.toList ++ args ++ cb.toList).toArray) w := by
      have hfv : a.eval x = .func (.func f) rc cb := hs.sl.ev hx
      simp only [execOp, resolve, e, hfv, Deferred.ofValue]
      simp [invoke, hen]
    unfold OW
    rw [hrun]
    refine ⟨fun _ => Nat.le_refl 1, callsIn_of (Calls.mono (hc w hs.hp hs.nd hs.on) fun e w' ⟨v, he, hon, hphi⟩ => ?_)⟩
    subst he
    subst hphi
    have h1 : HpOK η w' := hs.hp.only hon (by simp)
    have hst : St n w0 S ((d, .bool b) :: σ) η (a.put (some d) (.bool b)) w' := (⟨hs.df, hs.sz, hs.sl, h1, hs.nd, hs.on.trans hon (by simp)⟩ : St n w0 S σ η a w').put _ hdn
    refine ⟨fun _ => hst.hp.mono hπ, ?_⟩
    cases b
    · exact kf rfl hπ _ _ hst
    · exact kt rfl hπ _ _ hst
end
/-! literal slices of rows -/
def offs (k : Nat) : Nat → List (Array Value) → List (Nat × Array Value)
  | _, [] => []
  | i, v :: r => (i * k, v) :: offs k (i + 1) r
def partsOf : Nat → List (Array Value) → List (Nat × Value)
  | _, [] => []
  | i, v :: r => (i, .agg v) :: partsOf (i + 1) r
theorem placed_offs {k : Nat} : ∀ (vs : List (Array Value)) (i : Nat), (∀ v ∈ vs, v.size = k) → placed (fun i => some (i * k, k)) (partsOf i vs) = some (offs k i vs)
  | [], _, _ => rfl
  | v :: r, i, h => by
    have h1 : v.size = k := h v (by simp)
    simp only [partsOf, placed, placed_offs r (i + 1) (fun u hu => h u (by simp [hu])), offs]
    exact if_pos h1
theorem offs_fit {k : Nat} : ∀ (vs : List (Array Value)) (i n : Nat), (∀ v ∈ vs, v.size = k) → i + vs.length ≤ n → ∀ p ∈ offs k i vs, p.1 + p.2.size ≤ n * k
  | [], _, _, _, _, p, hp => by cases hp
  | v :: r, i, n, h, hn, p, hp => by
    simp only [List.length_cons] at hn
    rcases List.mem_cons.1 hp with rfl | hp
    · show i * k + v.size ≤ n * k
      rw [h v (by simp), ← Nat.succ_mul]
      exact Nat.mul_le_mul_right k (by omega)
    · exact offs_fit r (i + 1) n (fun u hu => h u (by simp [hu])) (by omega) p hp
theorem fillS_offs {k : Nat} : ∀ (vs : List (Array Value)) (i : Nat) (Z : Array Value), (∀ v ∈ vs, v.size = k) → Z.size = (i + vs.length) * k → (fillS Z (offs k i vs)).toList = Z.toList.take (i * k) ++ vs.flatMap Array.toList
  | [], i, Z, _, hz => by
    simp only [offs, fillS, List.flatMap_nil, List.append_nil]
    rw [List.take_of_length_le (by simp at hz ⊢; omega)]
  | v :: r, i, Z, h, hz => by
    simp only [List.length_cons] at hz
    have hv : v.size = k := h v (by simp)
    have hik : i * k + k ≤ Z.size := by rw [hz, ← Nat.succ_mul]; exact Nat.mul_le_mul_right k (by omega)
    have hs : (splice Z (i * k) v).size = (i + 1 + r.length) * k := by
      simp only [splice, List.size_toArray, List.length_append, List.length_take, List.length_drop, Array.length_toList, hv]
      rw [show i + 1 + r.length = i + (r.length + 1) by omega, ← hz]
      omega
    simp only [offs, fillS]
    rw [fillS_offs r (i + 1) _ (fun u hu => h u (by simp [hu])) hs, List.flatMap_cons, ← List.append_assoc]
    congr 1
    simp only [splice]
    rw [List.take_append_of_le_length (by simp [hv, Nat.succ_mul]; omega), List.take_of_length_le (by simp [hv, Nat.succ_mul]; omega)]
theorem BuildsS.rows {P : Program} {T E : TypeId} {k : Nat} {z : Value} {cs : Array Value} (vs : List (Array Value)) (n : Nat) (hn : vs.length = n) (hn0 : 0 < n) (hn2 : n ≤ 100) (ht : P.underlying T = some (.slice E)) (hE : ∀ w, (sizeOf E).run P w = .ok k w) (hk : 0 < k) (hk2 : k ≤ 1000)
    (hz : ∀ w, (zeroValue E).run P w = .ok z w) (hs : ∀ v ∈ vs, v.size = k) (hcs : cs.toList = vs.flatMap Array.toList) : BuildsS P T n (partsOf 0 vs) E cs := ⟨fun w => by
  have hfill : ∀ Z : Array Value, Z.size = n * k → Instr.fill (fun i => some (i * k, k)) Z (partsOf 0 vs) = some cs := fun Z hZ => by
    rw [fill_eq (fun i => some (i * k, k)) (partsOf 0 vs) Z (offs k 0 vs) (placed_offs vs 0 hs) (by rw [hZ]; exact offs_fit vs 0 n hs (by omega))]
    congr 1
    apply Array.ext'
    rw [fillS_offs vs 0 Z hs (by rw [hZ, ← hn, Nat.zero_add]), hcs]
    simp
  have h1 : 0 < n * k := Nat.mul_pos hn0 hk
  have h2 : n * k ≤ 100 * 1000 := Nat.mul_le_mul hn2 hk2
  simp only [Instr.buildSlice, Sem.run_bind, run_underlying ht w, Result.andThen_ok, hE]
  rw [if_neg (by omega), if_neg (by omega)]
  simp only [Sem.run_bind, Sem.run_pure, hz, Result.andThen_ok]
  rw [hfill _ (by simp)]
  simp [newRow, newObj, Sem.run]⟩
/-! parts of slices that are only read -/
def CapOK (v : Value) (n : Nat) : Prop := ∃ A c, v = .slice A n c ∧ n ≤ c
theorem OwnR.cap {base : Nat} {E : TypeId} {k : Nat} {v : Value} {ν : Heap} {n : Nat} {xs : List Value} (h : OwnR base E k v ν n xs) : CapOK v n := by
  rcases h with ⟨rfl, _, rfl, _⟩ | ⟨g, cap, cur, rfl, _, _, h4, _⟩
  · exact ⟨none, 0, rfl, Nat.le_refl _⟩
  · exact ⟨_, cap, rfl, h4⟩
theorem Src.upto {P : Program} {φ : Heap} {T E' : TypeId} {k : Nat} {v : Value} {n : Nat} {xs : List Value} (h : Src φ v k n xs) (hc : CapOK v n) (kd : IntKind) (j : Nat) (hj : j ≤ n) (hT : P.underlying T = some (.slice E')) (hE : ∀ w, (sizeOf E').run P w = .ok k w) :
    ∃ u, (∀ w, (Instr.slice T v none (some (.int kd j)) none).run P w = .ok u w) ∧ Src φ u k j (xs.take (j * k)) ∧ CapOK u j := by
  have he : P.elem T = E' := by simp [Program.elem, hT]
  have hT' : P.underlying T = some (.slice (P.elem T)) := by rw [he]; exact hT
  have hl : (xs.take (j * k)).length = j * k := by rw [List.length_take, h.1]; exact Nat.min_eq_left (Nat.mul_le_mul_right k hj)
  rcases h with ⟨h0, ⟨rfl, rfl⟩ | ⟨A, c, rfl, hA⟩⟩
  · have hj0 : j = 0 := by omega
    subst hj0
    refine ⟨.slice none 0 0, fun w => ?_, ⟨hl, .inl ⟨rfl, rfl⟩⟩, ⟨none, 0, rfl, Nat.le_refl _⟩⟩
    rw [run_slice_h w T none 0 0 hT' kd (0 : Nat) (by simp) (by simp), he, hE]
    simp [sliced]
  · obtain ⟨A', c', hv, hcap⟩ := hc
    simp only [Value.slice.injEq] at hv
    obtain ⟨rfl, -, rfl⟩ := hv
    have hadd0 : A.add 0 = A := by unfold Addr.add; split <;> simp_all
    refine ⟨.slice (some A) j c, fun w => ?_, ⟨hl, .inr ⟨A, c, rfl, ?_⟩⟩, ⟨_, c, rfl, by omega⟩⟩
    · rw [run_slice_h w T (some A) n c hT' kd (j : Nat) (by omega) (by omega), he, hE]
      simp [sliced, hadd0]
    · rcases hA with rfl | ⟨b, o, cs, E, fr, rfl, hm, hg⟩
      · exact .inl (by omega)
      · refine .inr ⟨b, o, cs, E, fr, rfl, hm, fun i u hi => ?_⟩
        rw [List.getElem?_take] at hi
        split at hi
        · exact hg i u hi
        · cases hi
theorem Src.behind {P : Program} {φ : Heap} {T E' : TypeId} {k : Nat} {v : Value} {n : Nat} {xs : List Value} (h : Src φ v k n xs) (hc : CapOK v n) (kd : IntKind) (j : Nat) (hj : j ≤ n) (hT : P.underlying T = some (.slice E')) (hE : ∀ w, (sizeOf E').run P w = .ok k w) :
    ∃ u, (∀ w, (Instr.slice T v (some (.int kd j)) none none).run P w = .ok u w) ∧ Src φ u k (n - j) (xs.drop (j * k)) ∧ CapOK u (n - j) := by
  have he : P.elem T = E' := by simp [Program.elem, hT]
  have hT' : P.underlying T = some (.slice (P.elem T)) := by rw [he]; exact hT
  have hl : (xs.drop (j * k)).length = (n - j) * k := by rw [List.length_drop, h.1, Nat.sub_mul]
  rcases h with ⟨h0, ⟨rfl, rfl⟩ | ⟨A, c, rfl, hA⟩⟩
  · have hj0 : j = 0 := by omega
    subst hj0
    refine ⟨.slice none 0 0, fun w => ?_, ⟨hl, .inl ⟨rfl, rfl⟩⟩, ⟨none, 0, rfl, Nat.le_refl _⟩⟩
    rw [run_slice_l w T none 0 0 hT' kd (0 : Nat) (by simp) (by simp), he, hE]
    simp [sliced]
  · obtain ⟨A', c', hv, hcap⟩ := hc
    simp only [Value.slice.injEq] at hv
    obtain ⟨rfl, -, rfl⟩ := hv
    have key : ∀ w, (Instr.slice T (.slice (some A) n c) (some (.int kd j)) none none).run P w = .ok (sliced (some A) j n c k) w := fun w => by
      rw [run_slice_l w T (some A) n c hT' kd (j : Nat) (by omega) (by omega), he, hE]
      simp
    by_cases hcj : c = j
    · refine ⟨_, key, ⟨hl, .inr ⟨A, c - j, by simp [sliced, hcj], .inl (by omega)⟩⟩, ⟨some A, c - j, by simp [sliced, hcj], by omega⟩⟩
    · refine ⟨_, key, ⟨hl, .inr ⟨A.add (j * k), c - j, by simp [sliced, hcj], ?_⟩⟩, ⟨some (A.add (j * k)), c - j, by simp [sliced, hcj], by omega⟩⟩
      rcases hA with rfl | ⟨b, o, cs, E, fr, rfl, hm, hg⟩
      · exact .inl (by omega)
      · refine .inr ⟨b, o + j * k, cs, E, fr, by rw [add_plain], hm, fun i u hi => ?_⟩
        rw [List.getElem?_drop] at hi
        rw [Nat.add_assoc]
        exact hg _ u hi
section
variable {P : Program} {σ : Slots} {φ : Heap} {dst : Option Tmp} {ty : TypeId} {pos : String} {aft : Array Edge} {g : Option (Nat × Bool)}
theorem rd_bneD {T U : TypeId} {x y : Operand} {a b : Bool} (hx : ev σ x = some (.bool a)) (hy : ev σ y = some (.bool b)) (hT : P.underlying T = some .bool) : Rd P σ φ ⟨dst, .binOp .neq T x y U, ty, pos, aft, g⟩ (.bool (decide (a ≠ b))) :=
  rd_bin hx hy fun w => by
    have h : ∀ d, (Op.equalIn (d + 1) T (.bool a) (.bool b)).run P w = .ok (a == b) w := fun d => by simp [Op.equalIn, run_underlying hT]
    have h' : (Op.equal T (.bool a) (.bool b)).run P w = .ok (a == b) w := h 9999
    cases a <;> cases b <;> simp [eqGuard, binOp, h']
end
end Go.Sx
