/- Plain laws of sets of rows. No conditions. -/
import Derived.Test.YtaagmgpfpaanlaaRef
namespace Go.Proofs.Ytaagmgpfpaanlaa
open Go Go.RowKit Go.Sx
set_option linter.unusedVariables false
set_option linter.unusedSimpArgs false
instance HM.left (b : Nat) (o : Obj) (ν η : Heap) [h : HM b o ν] : HM b o (ν ++ η) := ⟨List.mem_append_left _ h.go⟩
theorem any_perm {α : Type} {l m : List α} (h : l.Perm m) (p : α → Bool) : l.any p = m.any p := by
  rw [Bool.eq_iff_iff]
  simp only [List.any_eq_true]
  exact ⟨fun ⟨x, hx, hp⟩ => ⟨x, h.mem_iff.1 hx, hp⟩, fun ⟨x, hx, hp⟩ => ⟨x, h.mem_iff.2 hx, hp⟩⟩
theorem wd_perm {l m : List RR} (h : l.Perm m) (id : Id) : wdB l id = wdB m id := by
  simp only [wdB, any_perm h]
theorem chk_perm {l m : List RR} (h : l.Perm m) : chkE l = 0 ↔ chkE m = 0 := by
  rw [chkE_iff, chkE_iff, (h.map RR.id).nodup_iff]
  exact and_congr_right fun _ => ⟨fun h1 x hx => h1 x (h.mem_iff.2 hx), fun h1 x hx => h1 x (h.mem_iff.1 hx)⟩
def endsF (own : List RR) (pr : Id → Bool) : List Id := if chkE own = 0 then whereI own pr else []
theorem endsF_len (own : List RR) (pr : Id → Bool) : (endsF own pr).length ≤ own.length := by
  unfold endsF
  split
  · rw [whereI, sortI_len]; exact Nat.le_trans (List.length_filter_le _ _) (by simp)
  · simp
theorem ends_perm {l m : List RR} (h : l.Perm m) : endsF l (fun id => !wdB l id) = endsF m (fun id => !wdB m id) := by
  have e : (fun id => !wdB l id) = (fun id => !wdB m id) := by funext id; rw [wd_perm h]
  rw [e]
  unfold endsF
  by_cases hc : chkE l = 0
  · rw [if_pos hc, if_pos ((chk_perm h).1 hc)]
    exact sortI_congr ((h.map RR.id).filter _)
  · rw [if_neg hc, if_neg (fun h2 => hc ((chk_perm h).2 h2))]
theorem turn_at {α : Type} (l : List α) (t j : Nat) (hj : j < l.length) : ((l.drop (t % l.length) ++ l.take (t % l.length)).reverse)[j]? = l[(l.length - 1 - j + t) % l.length]? := by
  have hn : 0 < l.length := by omega
  have ht : t % l.length < l.length := Nat.mod_lt _ hn
  have hmod : (l.length - 1 - j + t) % l.length = (l.length - 1 - j + t % l.length) % l.length := by rw [Nat.add_mod, Nat.add_mod (l.length - 1 - j) (t % l.length), Nat.mod_mod]
  rw [hmod]
  generalize t % l.length = u at ht ⊢
  have hlen : (l.drop u ++ l.take u).length = l.length := by simp; omega
  rw [List.getElem?_reverse (by rw [hlen]; exact hj), hlen, List.getElem?_append]
  have hd : (l.drop u).length = l.length - u := List.length_drop
  rw [hd]
  by_cases h : l.length - 1 - j < l.length - u
  · rw [if_pos h, List.getElem?_drop, Nat.mod_eq_of_lt (by omega)]
    congr 1; omega
  · rw [if_neg h, List.getElem?_take, if_pos (by omega), Nat.mod_eq_sub_mod (by omega), Nat.mod_eq_of_lt (by omega)]
    congr 1; omega
theorem turn_perm {α : Type} (l : List α) (u : Nat) : ((l.drop u ++ l.take u).reverse).Perm l :=
  (List.reverse_perm _).trans (List.perm_append_comm.trans (by rw [List.take_append_drop]))
/-- a row that supersedes nothing, and that nothing supersedes, is an end -/
theorem alone_end {l : List RR} {x : RR} (hc : chkE (l ++ [x]) = 0) (h0 : x.sup = id0) (hl : ∀ y ∈ l, y.sup ≠ x.id) : x.id ∈ whereI (l ++ [x]) (fun id => !wdB (l ++ [x]) id) := by
  rw [whereI]
  refine (sortI_perm _).mem_iff.2 (List.mem_filter.2 ⟨List.mem_map.2 ⟨x, by simp, rfl⟩, ?_⟩)
  have hn := (chkE_nd hc).1
  have hm : x ∈ l ++ [x] := by simp
  rw [wd_in hn hm]
  simp only [Bool.not_eq_true', List.any_eq_false]
  intro y hy
  have hv : ¬ valB x y := fun hv => by
    rcases List.mem_append.1 hy with hy | hy
    · exact hl y hy hv.2.1
    · rw [List.mem_singleton.1 hy] at hv; exact hv.2.2.1 rfl
  have ho : ¬ outB y x := fun ho => ho.2.1 (ho.2.2.2.1.trans h0)
  simp [hv, ho]
/-- of two rows with the same target and the same groups one is withdrawn -/
theorem one_wd {l : List RR} (hn : (l.map RR.id).Nodup) {a b : RR} (ha : a ∈ l) (hb : b ∈ l) (hne : a.id ≠ b.id) (hs : a.sup = b.sup) (h0 : a.sup ≠ id0) (h1 : a.sup ≠ a.id) (h2 : b.sup ≠ b.id) (hau : a.au = b.au) (hg : a.grp = b.grp) : wdB l a.id = true ∨ wdB l b.id = true := by
  have hgg : a.grp &&& b.grp = a.grp := by rw [hg]; exact UInt8.and_self
  by_cases ho : ordLt a b
  · refine .inr ?_
    rw [wd_in hn hb, List.any_eq_true]
    exact ⟨a, ha, by simp [show outB a b from ⟨hne, h0, h1, hs, hau, by rw [hg]; exact UInt8.and_self, ho⟩]⟩
  · refine .inl ?_
    have ho2 : ordLt b a := Decidable.byContradiction fun h => hne (ordLt_total ho h).2
    rw [wd_in hn ha, List.any_eq_true]
    exact ⟨b, hb, by simp [show outB b a from ⟨fun e => hne e.symm, hs ▸ h0, h2, hs.symm, hau.symm, by rw [hg]; exact UInt8.and_self, ho2⟩]⟩
end Go.Proofs.Ytaagmgpfpaanlaa
