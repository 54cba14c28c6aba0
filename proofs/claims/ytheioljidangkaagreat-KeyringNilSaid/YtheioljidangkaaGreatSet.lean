/- A set of roll-overs: what its blocks say. No conditions. -/
import Derived.Test.YtheioljidangkaaGreatW11
import Derived.Test.YtheioljidangkaaGreatVx
namespace Go.Proofs.YtheioljidangkaaGreat
open Go Go.RowKit Go.Sx
set_option linter.unusedVariables false
set_option linter.unusedSimpArgs false
/-- a slice as three words -/
structure GV where
  A : Option Addr
  n : Nat
  c : Nat
abbrev GV.v (g : GV) : Value := .slice g.A g.n g.c
def gnil : GV := ⟨none, 0, 0⟩
theorem OwnR.gv {base : Nat} {E : TypeId} {k : Nat} {v : Value} {ν : Heap} {n : Nat} {xs : List Value} (h : OwnR base E k v ν n xs) : ∃ g : GV, v = g.v ∧ g.n = n := by
  rcases h with ⟨rfl, _, rfl, _⟩ | ⟨g, cap, cur, rfl, _⟩
  · exact ⟨⟨none, 0, 0⟩, rfl, rfl⟩
  · exact ⟨⟨some ⟨g, 0, none⟩, n, cap⟩, rfl, rfl⟩
/-! places as keys -/
def plOK (x : Pl) : Prop := (0 ≤ x.n ∧ x.n ≤ 1000) ∧ fineB x.p
abbrev PlK := {x : Pl // plOK x}
def plE (x : PlK) : Value := plK x.1
theorem laidT : laidOutB Tryz.prog = true := by kernel_rfl
instance : KeyEnc Tryz.prog 37 (idK (n := 32)) := ⟨Maps.Keyed.of_law (deep_law_gate laidT (by decide +kernel) (by decide +kernel) (by kernel_rfl) (by rw [Tryz.underlying37])),
  fun a => keyOf_u8 Tryz.underlying37 Tryz.underlying5 (by kernel_rfl) (by kernel_rfl) (by kernel_rfl) (by decide +kernel) _ (idC_size a) (fun i hi => ⟨a[i], idC_at a i hi⟩),
  fun _ _ h => idC_inj (by simpa using h)⟩
theorem cells_in {cs sub : Array Value} {off n : Nat} (hn : sub.size = n) (h : ∀ j, j < n → cs[off + j]? = sub[j]?) (hs : off + n ≤ cs.size) : (cs.toList.drop off).take n = sub.toList := by
  apply List.ext_getElem?
  intro j
  rw [List.getElem?_take]
  by_cases hj : j < n
  · rw [if_pos hj, List.getElem?_drop, Array.getElem?_toList, h j hj, Array.getElem?_toList]
  · rw [if_neg hj, List.getElem?_eq_none (by simp; omega)]
theorem cell_in {cs : Array Value} {off : Nat} {v : Value} (h : cs[off]? = some v) : (cs.toList.drop off).take 1 = [v] := by
  have hl := (Array.getElem?_eq_some_iff.1 h).1
  rw [List.drop_eq_getElem_cons (by simpa using hl)]
  have hv := (Array.getElem?_eq_some_iff.1 h).2
  simp [hv]
theorem vec_eq {n : Nat} {x y : Vector UInt8 n} (h : ∀ j, j < n → (idC x)[j]? = (idC y)[j]?) : x = y := by
  apply idC_inj
  apply Array.ext_getElem?
  intro j
  by_cases hj : j < n
  · exact h j hj
  · rw [Array.getElem?_eq_none (by rw [idC_size]; omega), Array.getElem?_eq_none (by rw [idC_size]; omega)]
theorem plC_inj {x y : Pl} (h : plC x = plC y) : x = y := by
  have e1 : x.au = y.au := vec_eq fun j hj => by rw [← pl_a0 x j hj, ← pl_a0 y j hj, h]
  have e2 := pl_a16 x
  rw [h, pl_a16 y] at e2
  have e3 := pl_a17 x
  rw [h, pl_a17 y] at e3
  have e4 : x.p.root = y.p.root := vec_eq fun j hj => by rw [← pl_a18 x j hj, ← pl_a18 y j hj, h]
  simp only [Option.some.injEq, Value.int.injEq, true_and] at e2 e3
  obtain ⟨a, n, ⟨h1, r⟩⟩ := x
  obtain ⟨a', n', ⟨h1', r'⟩⟩ := y
  simp only at e1 e2 e3 e4
  subst e1; subst e2; subst e3; subst e4; rfl
theorem lits_int {d : Nat} {n : Int} (h : -1000000 ≤ n ∧ n ≤ 1000000) : ∃ l, Tryz.prog.keyLits (d + 1) 3 [I n] = some l := ⟨[.int .i64 n], by
  have hw : (Lit.int .i64 n).wf = true := by
    simp [Lit.wf, IntKind.min, IntKind.max, IntKind.signed, IntKind.bits]
    omega
  simp [Program.keyLits, Tryz.underlying3, hw]⟩
theorem lits_struct {t : TypeId} {fs : List Field} (ht : Tryz.prog.underlying t = some (.struct fs.toArray)) {d : Nat} {cs : List Value} (hl : cs.length = Tryz.prog.cellsOf t) (hn : fs.toArray.all (·.name != "_") = true)
    (h : ∀ f ∈ fs, ∃ l, Tryz.prog.keyLits d f.type ((cs.drop f.offset).take (Tryz.prog.cellsOf f.type)) = some l) : ∃ l, Tryz.prog.keyLits (d + 1) t cs = some l := by
  obtain ⟨ys, hys⟩ := mapM_some (f := fun f : Field => Tryz.prog.keyLits d f.type ((cs.drop f.offset).take (Tryz.prog.cellsOf f.type))) fs h
  refine ⟨ys.flatten, ?_⟩
  unfold Program.keyLits
  simp only [ht, hl, hn, and_self, if_true, List.toList_toArray]
  rw [hys]; rfl
theorem pub_lits (f0 f1 : Field) (hU : Tryz.prog.underlying 35 = some (.struct #[f0, f1])) (h0 : f0.name ≠ "_" ∧ f0.type = 3 ∧ f0.offset = 0) (h1 : f1.name ≠ "_" ∧ f1.type = 28 ∧ f1.offset = 1) {d : Nat} (p : Pub) (hp : fineB p) : ∃ l, Tryz.prog.keyLits (d + 4) 35 (pubC p).toList = some l := by
  refine lits_struct (fs := [f0, f1]) hU (by rw [show Tryz.prog.cellsOf 35 = 17 by kernel_rfl]; simp [pubC_size]) (by simp [h0.1, h1.1]) fun f hf => ?_
  have c3 : Tryz.prog.cellsOf 3 = 1 := by kernel_rfl
  have c29 : Tryz.prog.cellsOf 28 = 16 := by kernel_rfl
  simp only [List.mem_cons, List.not_mem_nil, or_false] at hf
  rcases hf with rfl | rfl
  · rw [h0.2.1, h0.2.2, c3, cell_in (pub_a0 p)]
    obtain ⟨h1, h2⟩ := hp
    exact lits_int ⟨by omega, by omega⟩
  · rw [h1.2.1, h1.2.2, c29, cells_in (idC_size p.root) (fun j hj => pub_a1 p j hj) (by rw [pubC_size]; omega)]
    exact keyLits_u8 Tryz.underlying28 Tryz.underlying5 c29 (by kernel_rfl) (d + 1) _ (by simp [idC_size]) (fun i hi => ⟨p.root[i], by simpa using idC_at p.root i hi⟩)
theorem pl_lits (f0 f1 f2 : Field) (hU : Tryz.prog.underlying 96 = some (.struct #[f0, f1, f2])) (h0 : f0.name ≠ "_" ∧ f0.type = 59 ∧ f0.offset = 0) (h1 : f1.name ≠ "_" ∧ f1.type = 3 ∧ f1.offset = 16) (h2 : f2.name ≠ "_" ∧ f2.type = 35 ∧ f2.offset = 17)
    (hq : ∀ (d : Nat) (p : Pub), fineB p → ∃ l, Tryz.prog.keyLits (d + 4) 35 (pubC p).toList = some l) {d : Nat} (x : Pl) (hx : plOK x) : ∃ l, Tryz.prog.keyLits (d + 5) 96 (plC x).toList = some l := by
  refine lits_struct (fs := [f0, f1, f2]) hU (by rw [show Tryz.prog.cellsOf 96 = 34 by kernel_rfl]; simp [plC_size]) (by simp [h0.1, h1.1, h2.1]) fun f hf => ?_
  have c3 : Tryz.prog.cellsOf 3 = 1 := by kernel_rfl
  have c73 : Tryz.prog.cellsOf 59 = 16 := by kernel_rfl
  have c36 : Tryz.prog.cellsOf 35 = 17 := by kernel_rfl
  simp only [List.mem_cons, List.not_mem_nil, or_false] at hf
  rcases hf with rfl | rfl | rfl
  · rw [h0.2.1, h0.2.2, c73, cells_in (idC_size x.au) (fun j hj => pl_a0 x j hj) (by rw [plC_size]; omega)]
    exact keyLits_u8 Tryz.underlying59 Tryz.underlying5 c73 (by kernel_rfl) (d + 2) _ (by simp [idC_size]) (fun i hi => ⟨x.au[i], by simpa using idC_at x.au i hi⟩)
  · rw [h1.2.1, h1.2.2, c3, cell_in (pl_a16 x)]
    obtain ⟨⟨h1, h2⟩, _⟩ := hx
    exact lits_int ⟨by omega, by omega⟩
  · rw [h2.2.1, h2.2.2, c36, cells_in (pubC_size x.p) (fun j hj => pl_pub17 x j hj) (by rw [plC_size]; omega)]
    exact hq d x.p hx.2
theorem pl_key (x : Pl) (hx : plOK x) : ∃ l, keyOf Tryz.prog 96 (plK x) = some l := by
  have h4 : 4 ≤ Tryz.prog.types.size := by decide +kernel
  obtain ⟨m, hm⟩ : ∃ m, Tryz.prog.types.size + 1 = m + 5 := ⟨Tryz.prog.types.size - 4, by omega⟩
  have hp : ∀ (d : Nat) (p : Pub), fineB p → ∃ l, Tryz.prog.keyLits (d + 4) 35 (pubC p).toList = some l := fun d p hp => pub_lits _ _ Tryz.underlying35 ⟨by decide, rfl, rfl⟩ ⟨by decide, rfl, rfl⟩ (d := d) p hp
  have hl : ∃ l, Tryz.prog.keyLits (m + 5) 96 (plC x).toList = some l := pl_lits _ _ _ Tryz.underlying96 ⟨by decide, rfl, rfl⟩ ⟨by decide, rfl, rfl⟩ ⟨by decide, rfl, rfl⟩ hp (d := m) x hx
  obtain ⟨l, hls⟩ := hl
  refine ⟨.string (keyBytes l), ?_⟩
  have c : Tryz.prog.cellsOf 96 = 34 := by kernel_rfl
  have hk : Tryz.prog.keyType 96 = true := by kernel_rfl
  unfold keyOf
  simp only [Tryz.underlying96, hk, Bool.true_and, Value.formed, c, plC_size, beq_self_eq_true, if_true, hm, Value.cells]
  rw [hls]
  rfl
instance : KeyEnc Tryz.prog 96 plE := ⟨Maps.Keyed.of_law (deep_law_gate laidT (by decide +kernel) (by decide +kernel) (by kernel_rfl) (by rw [Tryz.underlying96])),
  fun a => pl_key a.1 a.2, fun a b h => Subtype.ext (plC_inj (by simpa [plE] using h))⟩
/-! the maps -/
/-- the roll-overs of a place: the slice, its blocks, what it reads -/
structure PV where
  g : GV
  ν : Heap
  rs : List RK
abbrev pvE (v : PV) : Value := v.g.v
abbrev RMap := List (Id × RK)
abbrev WMap := List (PlK × PV)
def pv0 : PV := ⟨gnil, [], []⟩
def facts (W : WMap) : Heap := W.flatMap fun q => q.2.ν
abbrev rowsOK (g : GV) (ν : Heap) (rs : List RK) : Prop := OwnR 0 98 84 g.v ν rs.length (rs.flatMap rkL)
structure RingOK (L : RMap) (W : WMap) (own : List RK) : Prop where
  rows : L = own.map fun r => (r.id, r)
  nd : (own.map RK.id).Nodup
  ok : ∀ r ∈ own, okR r
  sl : ∀ q ∈ W, rowsOK q.2.g q.2.ν q.2.rs
  ids : ∀ q ∈ W, q.2.rs = atPl own q.1.1 ∧ q.2.rs ≠ []
  all : ∀ r ∈ own, ∃ q ∈ W, q.1.1 = plOf r
theorem RingOK.empty : RingOK [] [] [] := ⟨rfl, by simp, by simp, by simp, by simp, by simp⟩
section
variable {L : RMap} {W : WMap} {own : List RK}
theorem RingOK.len (h : RingOK L W own) : L.length = own.length := by rw [h.rows]; simp
theorem RingOK.look (h : RingOK L W own) {id : Id} {x : RK} (hx : mlook L id = some x) : x ∈ own ∧ x.id = id := by
  have hn : (L.map Prod.fst).Nodup := by rw [h.rows, List.map_map]; exact h.nd
  have hm := (lookup_some hn).1 hx
  rw [h.rows] at hm
  obtain ⟨r, hr, he⟩ := List.mem_map.1 hm
  simp only [Prod.mk.injEq] at he
  obtain ⟨h1, rfl⟩ := he
  exact ⟨hr, h1⟩
theorem RingOK.miss (h : RingOK L W own) {id : Id} (hx : mlook L id = none) : ∀ x ∈ own, x.id ≠ id := by
  intro x hm
  have : (x.id, x) ∈ L := by rw [h.rows]; exact List.mem_map.2 ⟨x, hm, rfl⟩
  exact lookup_none.1 hx _ this
theorem RingOK.at (h : RingOK L W own) {x : RK} (hx : x ∈ own) : mlook L x.id = some x := by
  have hn : (L.map Prod.fst).Nodup := by rw [h.rows, List.map_map]; exact h.nd
  exact (lookup_some hn).2 (by rw [h.rows]; exact List.mem_map.2 ⟨x, hx, rfl⟩)
theorem RingOK.isSome (h : RingOK L W own) (id : Id) : (mlook L id).isSome = decide (∃ x ∈ own, x.id = id) := by
  cases hl : mlook L id with
  | none => have := h.miss hl; simp; exact this
  | some y => obtain ⟨h1, h2⟩ := h.look hl; simp; exact ⟨_, h1, h2⟩
theorem facts_upd (r : PV) {A B : WMap} {x : PlK} {v : PV} (hn : ((A ++ (x, v) :: B).map Prod.fst).Nodup) : upd (A ++ (x, v) :: B) x r = A ++ (x, r) :: B := by
  have h1 : mlook (A ++ (x, v) :: B) x ≠ none := fun e => lookup_none.1 e (x, v) (by simp) rfl
  rw [upd, if_neg h1, List.map_append, List.map_cons, if_pos rfl]
  rw [List.map_append, List.map_cons, List.nodup_append] at hn
  obtain ⟨_, h2, h3⟩ := hn
  rw [List.nodup_cons] at h2
  have hA : A.map (fun p => if p.1 = x then (x, r) else p) = A := by
    conv => rhs; rw [← List.map_id A]
    refine List.map_congr_left fun p hp => if_neg fun e => h3 p.1 (List.mem_map.2 ⟨p, hp, rfl⟩) x (by simp) e
  have hB : B.map (fun p => if p.1 = x then (x, r) else p) = B := by
    conv => rhs; rw [← List.map_id B]
    refine List.map_congr_left fun p hp => if_neg fun e => h2.1 (List.mem_map.2 ⟨p, hp, e⟩)
  rw [hA, hB]
/-- the slice of a place apart -/
theorem RingOK.split (h : RingOK L W own) (hn : (W.map Prod.fst).Nodup) (x : PlK) : ∃ (g : GV) (ν rest : Heap), rowsOK g ν (atPl own x.1) ∧ (facts W).Perm (ν ++ rest) ∧ pvE ((mlook W x).getD pv0) = g.v ∧
    ∀ (g' : GV) (ν' : Heap) (rs : List RK), (facts (upd W x ⟨g', ν', rs⟩)).Perm (ν' ++ rest) := by
  cases hl : mlook W x with
  | none =>
    have h0 : atPl own x.1 = [] := by
      rw [atPl, List.filter_eq_nil_iff]
      intro r hr
      obtain ⟨q, hq, he⟩ := h.all r hr
      have := lookup_none.1 hl q hq
      simp only [decide_eq_true_eq]
      intro e
      exact this (Subtype.ext (he.trans e))
    refine ⟨gnil, [], facts W, by rw [h0]; exact OwnR.nil _ _ _, by simp, rfl, fun g' ν' rs => ?_⟩
    rw [upd_new hl]
    simp only [facts, List.flatMap_append, List.flatMap_cons, List.flatMap_nil, List.append_nil]
    exact List.perm_append_comm
  | some v =>
    have hm := (lookup_some hn).1 hl
    obtain ⟨A, B, rfl⟩ := List.append_of_mem hm
    refine ⟨v.g, v.ν, facts A ++ facts B, ?_, ?_, rfl, fun g' ν' rs => ?_⟩
    · have := (h.ids _ hm).1
      simp only at this
      rw [← this]; exact h.sl _ hm
    · simp only [facts, List.flatMap_append, List.flatMap_cons]
      rw [← List.append_assoc]
      exact (List.perm_append_comm.append_right _).trans (by rw [List.append_assoc])
    · rw [facts_upd _ hn]
      simp only [facts, List.flatMap_append, List.flatMap_cons]
      rw [← List.append_assoc]
      exact (List.perm_append_comm.append_right _).trans (by rw [List.append_assoc])
theorem mem_updK {α β : Type} [DecidableEq α] {L : List (α × β)} {a : α} {b : β} {q : α × β} (h : q ∈ upd L a b) : q = (a, b) ∨ (q ∈ L ∧ q.1 ≠ a) := by
  unfold upd at h
  split at h
  · rename_i hl
    rcases List.mem_append.1 h with h | h
    · exact .inr ⟨h, lookup_none.1 hl q h⟩
    · exact .inl (by simpa using h)
  · obtain ⟨p, hp, rfl⟩ := List.mem_map.1 h
    by_cases hpa : p.1 = a
    · exact .inl (by simp [hpa])
    · exact .inr (by simp [hpa, hp])
theorem RingOK.put (h : RingOK L W own) {r : RK} (hr : okR r) (hf : mlook L r.id = none) (x : PlK) (hx : x.1 = plOf r) {g : GV} {ν : Heap} (hg : rowsOK g ν (atPl own x.1 ++ [r])) :
    RingOK (upd L r.id r) (upd W x ⟨g, ν, atPl own x.1 ++ [r]⟩) (own ++ [r]) := by
  refine ⟨by rw [upd_new hf, h.rows]; simp, ?_, ?_, ?_, ?_, ?_⟩
  · rw [List.map_append, List.nodup_append]
    refine ⟨h.nd, by simp, fun a ha b hb => ?_⟩
    obtain ⟨z, hz, rfl⟩ := List.mem_map.1 ha
    simp at hb; subst hb
    exact h.miss hf z hz
  · intro y hy
    rcases List.mem_append.1 hy with hy | hy
    · exact h.ok y hy
    · rw [List.mem_singleton.1 hy]; exact hr
  · intro q hq
    rcases mem_updK hq with rfl | ⟨hq, _⟩
    · exact hg
    · exact h.sl q hq
  · intro q hq
    rcases mem_updK hq with rfl | ⟨hq, hne⟩
    · refine ⟨?_, by simp⟩
      simp [atPl, List.filter_append, hx]
    · refine ⟨?_, (h.ids q hq).2⟩
      rw [(h.ids q hq).1, atPl_skip]
      rw [← hx]
      exact fun e => hne (Subtype.ext e.symm)
  · intro y hy
    have key : (x, (⟨g, ν, atPl own x.1 ++ [r]⟩ : PV)) ∈ upd W x ⟨g, ν, atPl own x.1 ++ [r]⟩ := by
      unfold upd
      split
      · simp
      · rename_i hl
        cases hlk : mlook W x with
        | none => exact absurd hlk hl
        | some v =>
          have : ∃ p ∈ W, p.1 = x := by
            have := hl
            rw [lookup_none] at this
            by_cases hc : ∃ p ∈ W, p.1 = x
            · exact hc
            · exact absurd (fun p hp e => hc ⟨p, hp, e⟩) this
          obtain ⟨p, hp, he⟩ := this
          exact List.mem_map.2 ⟨p, hp, by simp [he]⟩
    by_cases hp : plOf y = x.1
    · exact ⟨_, key, hp.symm⟩
    · rcases List.mem_append.1 hy with hy | hy
      · obtain ⟨q, hq, he⟩ := h.all y hy
        have hne : q.1 ≠ x := fun e => hp (by rw [← he, e])
        refine ⟨q, ?_, he⟩
        unfold upd
        split
        · exact List.mem_append_left _ hq
        · exact List.mem_map.2 ⟨q, hq, by simp [hne]⟩
      · rw [List.mem_singleton.1 hy] at hp; exact absurd hx.symm hp
end
/-- the facts of a ring's blocks that may turn, and all of them -/
abbrev ringT (m k : Nat) (es : Array MapEntry) (c : Nat) (ws : Array MapEntry) (d : Nat) (ν : Heap) : Heap := (m, .map es c) :: (k, .map ws d) :: ν
abbrev ringP (p m k : Nat) : Nat × Obj := (p, .cells #[.map (some m), .map (some k)] 93 (0, 0))
def RingTo (m k : Nat) (own' : List RK) (T : Heap) (w w' : World) : Prop := ∃ (es : Array MapEntry) (c : Nat) (ws : Array MapEntry) (d : Nat) (L : RMap) (W : WMap),
  HpOK (ringT m k es c ws d (facts W)) w' ∧ ((ringT m k es c ws d (facts W)).map Prod.fst).Nodup ∧ (∀ b ∈ (ringT m k es c ws d (facts W)).map Prod.fst, w.heap.size ≤ b ∨ b ∈ T.map Prod.fst) ∧ MapIs (idK (n := 32)) rkK es c L ∧ MapIs plE pvE ws d W ∧ RingOK L W own'
/-! the errors of Add -/
def errR (r : RK) (kind to : Int) : Int :=
  if kind ≠ 5 then 11 else if r.n < 0 ∨ 999 < r.n then 2 else if to ≠ r.n + 1 then 30 else
  if ¬ fineB r.p ∨ ¬ fineB r.q ∨ r.p = r.q ∨ r.leaf < 0 ∨ (2 : Int) ^ r.p.h.toNat ≤ r.leaf then 18 else if r.n = 0 ∧ ofF r.p ≠ r.au then 20 else 0
def addE (own : List RK) (r : RK) (kind to : Int) : Int := if errR r kind to ≠ 0 then errR r kind to else if (∃ x ∈ own, x.id = r.id) then 7 else 0
def addO (own : List RK) (r : RK) (kind to : Int) : List RK := if addE own r kind to = 0 then own ++ [r] else own
theorem errR_ok {r : RK} {kind to : Int} (h : errR r kind to = 0) : okR r := by
  unfold errR at h
  repeat' split at h
  all_goals first | (exfalso; omega; done) | skip
  all_goals simp only [okR]
  all_goals grind
theorem shl_h {h : Int} (h1 : 1 ≤ h) (h8 : h ≤ 8) : IntKind.i64.wrap (1 * 2 ^ min h.toNat IntKind.i64.bits) = (2 : Int) ^ h.toNat := by
  have : h = 1 ∨ h = 2 ∨ h = 3 ∨ h = 4 ∨ h = 5 ∨ h = 6 ∨ h = 7 ∨ h = 8 := by omega
  rcases this with rfl | rfl | rfl | rfl | rfl | rfl | rfl | rfl <;> decide
instance : ZeroOf Tryz.prog 93 #[.map none, .map none] := ⟨_, Tryz.zeroValue93, rfl⟩
instance (r s : Option Nat) : Builds Tryz.prog 93 [(0, .map r), (1, .map s)] #[.map r, .map s] :=
  Builds.struct inferInstance Tryz.underlying93 (by kernel_rfl) #[(0, 1), (1, 1)] (by kernel_rfl) [(0, #[.map r]), (1, #[.map s])] rfl (by simp) rfl
end Go.Proofs.YtheioljidangkaaGreat
