/- A set of rows: what its blocks say. No conditions. -/
import Derived.Test.YtaagmgpfpaanlaaAbs
import Derived.Test.YtaagmgpfpaanlaaVx
namespace Go.Proofs.Ytaagmgpfpaanlaa
open Go Go.RowKit Go.Sx
/-- a waiting list: the slice and what it reads -/
structure WV where
  g : GV
  ids : List Id
abbrev wvK (v : WV) : Value := v.g.v
abbrev RMap := List (Id × HR)
abbrev WMap := List (Id × WV)
theorem OwnR.gv {base : Nat} {E : TypeId} {k : Nat} {v : Value} {ν : Heap} {n : Nat} {xs : List Value} (h : OwnR base E k v ν n xs) : ∃ g : GV, v = g.v ∧ g.n = n := by
  rcases h with ⟨rfl, _, rfl, _⟩ | ⟨g, cap, cur, rfl, _⟩
  · exact ⟨⟨none, 0, 0⟩, rfl, rfl⟩
  · exact ⟨⟨some ⟨g, 0, none⟩, n, cap⟩, rfl, rfl⟩
def waits (own : List RR) (t : Id) : List Id := if t = id0 then [] else (own.filter (fun x => decide (x.sup = t))).map RR.id
/-- the maps L and W are those of a set with the rows own; ν are the blocks that its slices read -/
structure SetOK (ν : Heap) (L : RMap) (W : WMap) (own : List RR) : Prop where
  rows : L.map (fun q => q.2.r) = own
  keys : ∀ q ∈ L, q.1 = q.2.r.id
  nd : (own.map RR.id).Nodup
  grp : ∀ q ∈ L, GOK ν q.2.g q.2.r.grp
  src : ∀ q ∈ W, Src ν q.2.g.v 32 q.2.ids.length (idsL q.2.ids)
  ids : ∀ t, (match mlook W t with | some v => v.ids | none => []) = waits own t
theorem Src.nil (ν : Heap) (k : Nat) : Src ν gnil.v k 0 [] := ⟨by simp, .inl ⟨rfl, rfl⟩⟩
theorem SetOK.empty (ν : Heap) : SetOK ν [] [] [] := ⟨rfl, by simp, by simp, by simp, by simp, fun t => by simp [waits]⟩
theorem SetOK.mono {ν ν' : Heap} {L : RMap} {W : WMap} {own : List RR} (h : SetOK ν L W own) (hs : ∀ p ∈ ν, p ∈ ν') : SetOK ν' L W own :=
  ⟨h.rows, h.keys, h.nd, fun q hq => (h.grp q hq).mono hs, fun q hq => (h.src q hq).mono hs, h.ids⟩
theorem SetOK.len {ν : Heap} {L : RMap} {W : WMap} {own : List RR} (h : SetOK ν L W own) : L.length = own.length := by rw [← h.rows]; simp
theorem SetOK.keysEq {ν : Heap} {L : RMap} {W : WMap} {own : List RR} (h : SetOK ν L W own) : L.map Prod.fst = own.map RR.id := by
  rw [← h.rows, List.map_map]
  exact List.map_congr_left fun q hq => h.keys q hq
theorem SetOK.look {ν : Heap} {L : RMap} {W : WMap} {own : List RR} (h : SetOK ν L W own) {id : Id} {x : HR} (hx : mlook L id = some x) : x.r ∈ own ∧ x.r.id = id ∧ GOK ν x.g x.r.grp := by
  have hn : (L.map Prod.fst).Nodup := by rw [h.keysEq]; exact h.nd
  have hm := (lookup_some hn).1 hx
  refine ⟨?_, (h.keys _ hm).symm, h.grp _ hm⟩
  rw [← h.rows]
  exact List.mem_map.2 ⟨_, hm, rfl⟩
theorem SetOK.miss {ν : Heap} {L : RMap} {W : WMap} {own : List RR} (h : SetOK ν L W own) {id : Id} (hx : mlook L id = none) : ∀ x ∈ own, x.id ≠ id := by
  intro x hm
  rw [← h.rows] at hm
  obtain ⟨q, hq, rfl⟩ := List.mem_map.1 hm
  rw [← h.keys q hq]
  exact lookup_none.1 hx q hq
theorem uniq {own : List RR} (hn : (own.map RR.id).Nodup) {x y : RR} (hx : x ∈ own) (hy : y ∈ own) (h : x.id = y.id) : x = y := by
  obtain ⟨i, hi, rfl⟩ := List.getElem_of_mem hx
  obtain ⟨j, hj, rfl⟩ := List.getElem_of_mem hy
  have : i = j := (List.getElem_inj (h₀ := by simpa using hi) (h₁ := by simpa using hj) hn).1 (by simpa using h)
  subst this; rfl
/-- the row of an identity that is there -/
theorem SetOK.at {ν : Heap} {L : RMap} {W : WMap} {own : List RR} (h : SetOK ν L W own) {x : RR} (hx : x ∈ own) : ∃ g, mlook L x.id = some ⟨x, g⟩ ∧ GOK ν g x.grp := by
  cases hl : mlook L x.id with
  | none => exact absurd rfl (h.miss hl x hx)
  | some y =>
    obtain ⟨h1, h2, h3⟩ := h.look hl
    have := uniq h.nd h1 hx h2
    subst this
    exact ⟨y.g, rfl, h3⟩
theorem SetOK.isSome {ν : Heap} {L : RMap} {W : WMap} {own : List RR} (h : SetOK ν L W own) (id : Id) : (mlook L id).isSome = decide (∃ x ∈ own, x.id = id) := by
  cases hl : mlook L id with
  | none => have := h.miss hl; simp; exact this
  | some y => obtain ⟨h1, h2, _⟩ := h.look hl; simp; exact ⟨_, h1, h2⟩
/-- what a waiting list's look-up yields -/
def WaitAt (W : WMap) (t : Id) (g : GV) : Prop := (mlook W t = .none ∧ g = gnil) ∨ ∃ v, mlook W t = .some v ∧ v.g = g
theorem SetOK.wait {ν : Heap} {L : RMap} {W : WMap} {own : List RR} (h : SetOK ν L W own) (hWn : (W.map Prod.fst).Nodup) (t : Id) : ∃ g : GV, Src ν g.v 32 (waits own t).length (idsL (waits own t)) ∧ WaitAt W t g := by
  have hi := h.ids t
  cases hl : mlook W t with
  | none =>
    rw [hl] at hi
    exact ⟨gnil, by rw [← hi]; exact Src.nil ν 32, .inl ⟨hl, rfl⟩⟩
  | some v =>
    rw [hl] at hi
    have hm := (lookup_some hWn).1 hl
    exact ⟨v.g, by rw [← hi]; exact h.src _ hm, .inr ⟨v, hl, rfl⟩⟩
theorem zero26 (w : World) : (zeroValue 26).run Try.prog w = .ok (.slice none 0 0) w := Try.zeroValue26 w
section
variable {σ : Slots} {φ : Heap} {dst : Option Tmp} {ty : TypeId} {pos : String} {aft : Array Edge} {g : Option (Nat × Bool)}
theorem rd_wait {x ix : Operand} {k : Nat} {ws : Array MapEntry} {d : Nat} {W : WMap} {t : Id} {gw : GV} (h : MapIs idK wvK ws d W) (hw : WaitAt W t gw) (hx : ev σ x = some (.map (some k))) (hi : ev σ ix = some (idK t)) [hm : HM k (.map ws d) φ] :
    Rd Try.prog σ φ ⟨dst, .lookup 78 x ix false, ty, pos, aft, g⟩ gw.v := by
  rcases hw with ⟨h1, rfl⟩ | ⟨v, h1, rfl⟩
  · exact rd_look_none (c := false) (ek := idK) (en := wvK) Try.underlying78 h zero26 h1 hx hi
  · exact rd_look_some (c := false) (ek := idK) (en := wvK) Try.underlying78 h h1 hx hi
theorem rd_row {x ix : Operand} {m : Nat} {es : Array MapEntry} {c : Nat} {L : RMap} {id : Id} {y : HR} (h : MapIs idK hrK es c L) (hl : mlook L id = some y) (hx : ev σ x = some (.map (some m))) (hi : ev σ ix = some (idK id)) [hm : HM m (.map es c) φ] :
    Rd Try.prog σ φ ⟨dst, .lookup 77 x ix false, ty, pos, aft, g⟩ (.agg (rowC y.r y.g)) :=
  rd_look_some (c := false) (ek := idK) (en := hrK) Try.underlying77 h hl hx hi
end
theorem waits_app (own : List RR) (r : RR) (t : Id) : waits (own ++ [r]) t = if r.sup = t ∧ t ≠ id0 then waits own t ++ [r.id] else waits own t := by
  by_cases h0 : t = id0
  · simp [waits, h0]
  · by_cases h : r.sup = t
    · simp [waits, h0, h, List.filter_append]
    · simp [waits, h0, h, List.filter_append]
theorem mem_upd {β : Type} {L : List (Id × β)} {a : Id} {b : β} {q : Id × β} (h : q ∈ upd L a b) : q ∈ L ∨ q = (a, b) := by
  unfold upd at h
  split at h
  · rcases List.mem_append.1 h with h | h
    · exact .inl h
    · exact .inr (by simpa using h)
  · obtain ⟨p, hp, rfl⟩ := List.mem_map.1 h
    by_cases hpa : p.1 = a
    · simp [hpa]
    · simp [hpa, hp]
theorem SetOK.put {ν : Heap} {L : RMap} {W : WMap} {own : List RR} (h : SetOK ν L W own) {r : RR} {g : GV} (hf : mlook L r.id = .none) (hg : GOK ν g r.grp) (h0 : r.sup = id0) : SetOK ν (upd L r.id ⟨r, g⟩) W (own ++ [r]) := by
  rw [upd_new hf]
  refine ⟨by simp [h.rows], fun q hq => ?_, ?_, fun q hq => ?_, h.src, fun t => ?_⟩
  · rcases List.mem_append.1 hq with hq | hq
    · exact h.keys q hq
    · rw [List.mem_singleton.1 hq]
  · rw [List.map_append, List.nodup_append]
    refine ⟨h.nd, by simp, fun x hx y hy => ?_⟩
    obtain ⟨z, hz, rfl⟩ := List.mem_map.1 hx
    simp at hy; subst hy
    exact h.miss hf z hz
  · rcases List.mem_append.1 hq with hq | hq
    · exact h.grp q hq
    · rw [List.mem_singleton.1 hq]; exact hg
  · rw [h.ids t, waits_app]
    split
    · rename_i h1; exact absurd (h1.1.symm.trans h0) h1.2
    · rfl
theorem SetOK.putW {ν : Heap} {L : RMap} {W : WMap} {own : List RR} (h : SetOK ν L W own) {r : RR} {g gw : GV} (hf : mlook L r.id = .none) (hg : GOK ν g r.grp) (h0 : r.sup ≠ id0) (hsw : Src ν gw.v 32 (waits own r.sup ++ [r.id]).length (idsL (waits own r.sup ++ [r.id]))) :
    SetOK ν (upd L r.id ⟨r, g⟩) (upd W r.sup ⟨gw, waits own r.sup ++ [r.id]⟩) (own ++ [r]) := by
  rw [upd_new hf]
  refine ⟨by simp [h.rows], fun q hq => ?_, ?_, fun q hq => ?_, fun q hq => ?_, fun t => ?_⟩
  · rcases List.mem_append.1 hq with hq | hq
    · exact h.keys q hq
    · rw [List.mem_singleton.1 hq]
  · rw [List.map_append, List.nodup_append]
    refine ⟨h.nd, by simp, fun x hx y hy => ?_⟩
    obtain ⟨z, hz, rfl⟩ := List.mem_map.1 hx
    simp at hy; subst hy
    exact h.miss hf z hz
  · rcases List.mem_append.1 hq with hq | hq
    · exact h.grp q hq
    · rw [List.mem_singleton.1 hq]; exact hg
  · rcases mem_upd hq with hq | rfl
    · exact h.src q hq
    · exact hsw
  · rw [mlook_upd, waits_app]
    by_cases ht : t = r.sup
    · subst ht; simp [h0]
    · rw [if_neg ht, if_neg (fun hh => ht hh.1.symm)]
      exact h.ids t
/-- the facts of a set's blocks, with others behind -/
abbrev setC (p m k : Nat) (es : Array MapEntry) (c : Nat) (ws : Array MapEntry) (d : Nat) (ν : Heap) : Heap := (p, .cells #[.map (some m), .map (some k)] 80 (0, 0)) :: (m, .map es c) :: (k, .map ws d) :: ν
/-! bits -/
theorem shr8 (m j : Nat) (hj : j < 8) : ((m : Nat) : Int).fdiv (2 ^ min ((j : Nat) : Int).toNat IntKind.u8.bits) = ((m / 2 ^ j : Nat) : Int) := by
  have h1 : min ((j : Nat) : Int).toNat IntKind.u8.bits = j := by
    have : IntKind.u8.bits = 8 := rfl
    omega
  rw [h1, Int.fdiv_eq_ediv_of_nonneg _ (Int.le_of_lt (Int.pow_pos (by omega)))]
  push_cast; rfl
theorem and1 (z : Nat) (hz : z < 256) : bitsI .and .u8 ((z : Nat) : Int) 1 = some ((z % 2 : Nat) : Int) := by
  have h := bits_and8 (UInt8.ofNat z) 1
  have h2 : (UInt8.ofNat z).toNat = z := by simp; omega
  rw [h2] at h
  have h3 : (((1 : UInt8).toNat : Nat) : Int) = 1 := rfl
  rw [h3] at h
  rw [h, UInt8.toNat_and, h2]
  congr 2
  exact Nat.and_one_is_mod z
def giL (m : UInt8) (j : Nat) : List Nat := (List.range j).filter fun i => decide (m.toNat / 2 ^ i % 2 = 1)
theorem giL_succ (m : UInt8) (j : Nat) : giL m (j + 1) = if m.toNat / 2 ^ j % 2 = 1 then giL m j ++ [j] else giL m j := by
  simp only [giL, List.range_succ, List.filter_append]
  split <;> rename_i h <;> simp [h]
theorem giL_len (m : UInt8) (j : Nat) : (giL m j).length ≤ j := by
  have := List.length_filter_le (fun i => decide (m.toNat / 2 ^ i % 2 = 1)) (List.range j)
  simpa [giL] using this
theorem abc (j : Nat) (hj : j < 8) : (ByteArray.mk #[97, 98, 99, 100, 101, 102, 103, 104]).extract j (j + 1) = gstr j := by
  have : ∀ j : Fin 8, (ByteArray.mk #[97, 98, 99, 100, 101, 102, 103, 104]).extract j.1 (j.1 + 1) = gstr j.1 := by decide +kernel
  exact this ⟨j, hj⟩
theorem gvL_one {m : UInt8} : ∀ u ∈ gvL m, u.oneCell' = true := fun u hu => by
  obtain ⟨i, _, rfl⟩ := List.mem_map.1 hu
  rfl
instance : ZeroOf Try.prog 80 #[.map none, .map none] := ⟨_, Try.zeroValue80, rfl⟩
instance (r s : Option Nat) : Builds Try.prog 80 [(0, .map r), (1, .map s)] #[.map r, .map s] :=
  Builds.struct inferInstance Try.underlying80 (by kernel_rfl) #[(0, 1), (1, 1)] (by kernel_rfl) [(0, #[.map r]), (1, #[.map s])] rfl (by simp) rfl
end Go.Proofs.Ytaagmgpfpaanlaa
