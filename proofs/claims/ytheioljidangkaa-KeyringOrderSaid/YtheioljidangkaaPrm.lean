/- The order of the roll-overs does not matter. No conditions. -/
import Derived.Test.YtheioljidangkaaLwa
namespace Go.Proofs.Ytheioljidangkaa
open Go Go.RowKit Go.Sx
set_option linter.unusedVariables false
set_option linter.unusedSimpArgs false
/-- no two of them share an identity -/
def idU (own : List RK) : Prop := ∀ x ∈ own, ∀ y ∈ own, x.id = y.id → x = y
theorem idU_nd : ∀ {own : List RK}, (own.map RK.id).Nodup → idU own
  | [], _ => fun x hx => by cases hx
  | r :: own, h => by
    rw [List.map_cons, List.nodup_cons] at h
    intro x hx y hy e
    rcases List.mem_cons.1 hx with h1 | h1 <;> rcases List.mem_cons.1 hy with h2 | h2
    · rw [h1, h2]
    · subst h1; exact absurd (List.mem_map.2 ⟨y, h2, e.symm⟩) h.1
    · subst h2; exact absurd (List.mem_map.2 ⟨x, h1, e⟩) h.1
    · exact idU_nd h.2 x h1 y h2 e
section
variable {own own2 : List RK} (hm : ∀ x, x ∈ own ↔ x ∈ own2)
include hm
theorem rootF_congr (a : Au) : rootF own a = rootF own2 a := by
  refine minOf_congr pubLt (fun a => numLt_irrefl _ _) (fun a b c => numLt_trans) (fun a b c => numLt_weak) ?_ ?_
  · intro x
    simp only [rootsOf, List.mem_map, List.mem_filter, hm]
  · intro x _ y _ h1 h2
    obtain ⟨e1, e2⟩ := numLt_total h1 h2
    obtain ⟨xh, xr⟩ := x; obtain ⟨yh, yr⟩ := y
    simp only at e1 e2
    subst e1; subst e2; rfl
theorem endF_congr (hu : idU own) (x : Pl) : endF own x = endF own2 x := by
  refine minOf_congr rkLt (fun a => numLt_irrefl _ _) (fun a b c => numLt_trans) (fun a b c => numLt_weak) ?_ ?_
  · intro x
    simp only [atPl, List.mem_filter, hm]
  · intro x hx y hy h1 h2
    simp only [atPl, List.mem_filter] at hx hy
    exact hu x hx.1 y hy.1 (numLt_total h1 h2).2
theorem chain_congr (hu : idU own) (a : Au) : chainF own a = chainF own2 a := by
  have hg : ∀ (f n : Nat) (p : Pub), chainG own a f n p = chainG own2 a f n p := by
    intro f
    induction f with
    | zero => intro n p; rfl
    | succ f ih =>
      intro n p
      simp only [chainG, endF_congr hm hu, ih]
  simp only [chainF, rootF_congr hm, hg]
end
/-- two keyrings hold the same -/
def sameF (own own2 : List RK) : Prop := own.length = own2.length ∧ ∀ x ∈ own, x ∈ own2
instance (own own2 : List RK) : Decidable (sameF own own2) := inferInstanceAs (Decidable (_ ∧ _))
theorem sameF_perm {own own2 : List RK} (h : own.Perm own2) : sameF own own2 := ⟨h.length_eq, fun x hx => h.mem_iff.1 hx⟩
/-! moves of different identities -/
abbrev fineM (m : MV) : Prop := errR (rekR m) (rekK m) (rekN m) = 0
theorem rek1_id (m : MV) : (rek1 m).id = idM m.id := by unfold rek1; split <;> rfl
theorem rekR_id (m : MV) : (rekR m).id = idM m.id := by
  unfold rekR
  repeat' split
  all_goals exact rek1_id m
theorem addM_new {own : List RK} {m : MV} (h : ∀ x ∈ own, x.id ≠ idM m.id) : addM own m = if fineM m then own ++ [rekR m] else own := by
  have hn : ¬ ∃ x ∈ own, x.id = (rekR m).id := fun ⟨x, hx, e⟩ => h x hx (by rw [e, rekR_id])
  unfold addM addO addE
  by_cases h0 : fineM m
  · have h1 : errR (rekR m) (rekK m) (rekN m) = 0 := h0
    rw [if_pos h0]
    simp [h1, hn]
  · have h1 : ¬ errR (rekR m) (rekK m) (rekN m) = 0 := h0
    rw [if_neg h0]
    simp [h1]
abbrev mIds (ms : List MV) : List Id := ms.map fun m => idM m.id
theorem build_apart {ms : List MV} (hn : (mIds ms).Nodup) : buildF ms = (ms.filter fun m => decide (fineM m)).map rekR := by
  have key : ∀ (ms : List MV) (own : List RK), (mIds ms).Nodup → (∀ x ∈ own, ∀ m ∈ ms, x.id ≠ idM m.id) → ms.foldl addM own = own ++ (ms.filter fun m => decide (fineM m)).map rekR := by
    intro ms
    induction ms with
    | nil => intro own _ _; simp
    | cons m ms ih =>
      intro own hn h
      rw [mIds, List.map_cons, List.nodup_cons] at hn
      rw [List.foldl_cons, addM_new (fun x hx => h x hx m (by simp))]
      by_cases h0 : fineM m
      · rw [if_pos h0, List.filter_cons_of_pos (by simpa using h0), List.map_cons, ih _ hn.2, List.append_assoc]; rfl
        intro x hx m2 hm2
        rcases List.mem_append.1 hx with hx | hx
        · exact h x hx m2 (List.mem_cons_of_mem _ hm2)
        · rw [List.mem_singleton.1 hx, rekR_id]
          exact fun e => hn.1 (List.mem_map.2 ⟨m2, hm2, e.symm⟩)
      · rw [if_neg h0, List.filter_cons_of_neg (by simpa using h0), ih _ hn.2 (fun x hx m2 hm2 => h x hx m2 (List.mem_cons_of_mem _ hm2))]
  rw [buildF, key ms [] hn (by simp), List.nil_append]
theorem build_perm {ms ms2 : List MV} (hn : (mIds ms).Nodup) (h : ms2.Perm ms) : (buildF ms2).Perm (buildF ms) := by
  rw [build_apart hn, build_apart ((h.map _).nodup_iff.2 hn)]
  exact (h.filter _).map _
theorem build_nd (ms : List MV) : ((buildF ms).map RK.id).Nodup := by
  have key : ∀ (ms : List MV) (own : List RK), (own.map RK.id).Nodup → ((ms.foldl addM own).map RK.id).Nodup := by
    intro ms
    induction ms with
    | nil => intro own h; exact h
    | cons m ms ih =>
      intro own h
      refine ih _ ?_
      unfold addM addO
      split
      · rename_i he
        rw [List.map_append, List.nodup_append]
        refine ⟨h, by simp, fun a ha b hb => ?_⟩
        obtain ⟨z, hz, rfl⟩ := List.mem_map.1 ha
        simp only [List.map_cons, List.map_nil, List.mem_singleton] at hb
        subst hb
        intro e
        unfold addE at he
        rw [if_pos (c := ∃ x ∈ own, x.id = (rekR m).id) ⟨z, hz, e⟩] at he
        split at he <;> omega
      · exact h
  exact key ms [] (by simp)
theorem idM_inj {a b : Nat} (ha : a < 16) (hb : b < 16) (h : idM (UInt8.ofNat a) = idM (UInt8.ofNat b)) : a = b := by
  have h1 := congrArg (fun v : Id => v[31]) h
  simp only [idM, Vector.getElem_set_self] at h1
  have h2 := congrArg UInt8.toNat h1
  rw [UInt8.toNat_mod, UInt8.toNat_mod] at h2
  simp only [UInt8.toNat_ofNat'] at h2
  rw [Nat.mod_eq_of_lt (a := a) (by omega), Nat.mod_eq_of_lt (a := b) (by omega)] at h2
  have h3 : (16 : UInt8).toNat = 16 := rfl
  rw [h3] at h2
  omega
/-- the moves numbered -/
def Numb (l : List MV) : Prop := l.map MV.id = (List.range l.length).map UInt8.ofNat
theorem Numb.nil : Numb [] := rfl
theorem Numb.snoc {l : List MV} (h : Numb l) (x : MV) : Numb (l ++ [{ x with id := UInt8.ofNat l.length }]) := by
  unfold Numb at h ⊢
  rw [List.map_append, h, List.length_append, List.length_singleton, List.range_succ, List.map_append]
  rfl
theorem Numb.nd {l : List MV} (h : Numb l) (hl : l.length ≤ 16) : (mIds l).Nodup := by
  have e : mIds l = (List.range l.length).map fun i => idM (UInt8.ofNat i) := by
    have := congrArg (List.map idM) h
    rw [List.map_map, List.map_map] at this
    exact this
  rw [e]
  unfold List.Nodup
  rw [List.pairwise_map]
  refine List.Pairwise.imp_of_mem ?_ (List.nodup_range (n := l.length))
  intro a b ha hb hne he
  rw [List.mem_range] at ha hb
  exact hne (idM_inj (by omega) (by omega) he)
/-- an element of one's own slice set -/
theorem flat_set {α : Type} {enc : α → List Value} {k : Nat} (hk : ∀ x, (enc x).length = k) (xs : List α) (i : Nat) (x : α) (hi : i < xs.length) : (xs.set i x).flatMap enc = (xs.flatMap enc).take (i * k) ++ enc x ++ (xs.flatMap enc).drop (i * k + k) := by
  rw [List.set_eq_take_append_cons_drop, if_pos hi, List.flatMap_append, List.flatMap_cons, flat_take hk, ← Nat.succ_mul, flat_drop hk, List.append_assoc]
theorem own_set {α : Type} {enc : α → List Value} {k : Nat} (hk : ∀ x, (enc x).length = k) {P : Program} {E : TypeId} (hS : ∀ w, (sizeOf E).run P w = .ok k w) {base g n cap : Nat} {cur : Array Value} {zs : List α} (hn : n = zs.length) {i : Nat} (h : OwnR base E k (.slice (some ⟨g, 0, none⟩) n cap) [(g, .cells cur E (0, 0))] n (zs.flatMap enc)) (hi : i < n) (x : α) {v : Value} (hv : v.cells.toList = enc x) (h1 : ∀ u ∈ enc x, u.oneCell' = true) :
    ∃ cur', WritesAt P E cur (i * k) v cur' ∧ OwnR base E k (.slice (some ⟨g, 0, none⟩) n cap) [(g, .cells cur' E (0, 0))] n ((zs.set i x).flatMap enc) := by
  subst hn
  rcases h with ⟨h0, _⟩ | ⟨g', cap', cur', h1', h2, h3, h4, h5, h6, h7, h8⟩
  · cases h0
  simp only [Value.slice.injEq, Option.some.injEq, Addr.mk.injEq, and_true, true_and] at h1'
  obtain ⟨rfl, rfl⟩ := h1'
  simp only [List.cons.injEq, Prod.mk.injEq, Obj.cells.injEq, and_true, true_and] at h2
  subst h2
  have hl : (zs.flatMap enc).length = zs.length * k := flat_len hk zs
  have hik : i * k + k ≤ zs.length * k := by rw [← Nat.succ_mul]; exact Nat.mul_le_mul_right k hi
  have hcap : zs.length * k ≤ cur.size := by rw [h6]; exact Nat.mul_le_mul_right k h4
  have hsz : v.cells.size = k := by rw [← Array.length_toList, hv, hk]
  refine ⟨(cur.toList.take (i * k) ++ v.cells.toList ++ cur.toList.drop (i * k + k)).toArray, WritesAt.of hS hsz (by rw [hv]; exact h1) (by omega) rfl, .inr ⟨g, cap, _, rfl, rfl, h3, h4, h5, ?_, ?_, by rw [flat_len hk, List.length_set]⟩⟩
  · rw [List.size_toArray, List.length_append, List.length_append, List.length_take, List.length_drop, hv, hk, Array.length_toList, ← h6]; omega
  · have e : cur.toList = zs.flatMap enc ++ cur.toList.drop (zs.length * k) := by rw [← h7, List.take_append_drop]
    rw [flat_set hk zs i x hi, hv]
    show (cur.toList.take (i * k) ++ enc x ++ cur.toList.drop (i * k + k)).take (zs.length * k) = _
    generalize cur.toList.drop (zs.length * k) = rest at e
    have e1 : (zs.flatMap enc ++ rest).take (i * k) = (zs.flatMap enc).take (i * k) := List.take_append_of_le_length (by omega)
    have e2 : (zs.flatMap enc ++ rest).drop (i * k + k) = (zs.flatMap enc).drop (i * k + k) ++ rest := List.drop_append_of_le_length (by omega)
    rw [e, e1, e2, ← List.append_assoc, List.take_append_of_le_length (by simp only [List.length_append, List.length_take, List.length_drop, hk, hl]; omega), List.take_of_length_le (by simp only [List.length_append, List.length_take, List.length_drop, hk, hl]; omega)]
theorem swap_perm {α : Type} {l : List α} {a b : Nat} {x y : α} (hx : l[a]? = some x) (hy : l[b]? = some y) : ((l.set a y).set b x).Perm l := by
  obtain ⟨ha, rfl⟩ := List.getElem?_eq_some_iff.1 hx
  obtain ⟨hb, rfl⟩ := List.getElem?_eq_some_iff.1 hy
  exact List.set_set_perm ha hb
end Go.Proofs.Ytheioljidangkaa
