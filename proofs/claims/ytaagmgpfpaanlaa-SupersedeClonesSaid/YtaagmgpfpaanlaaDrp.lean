/- A row dropped from a set. No conditions. -/
import Derived.Test.YtaagmgpfpaanlaaLaw
namespace Go.Proofs.Ytaagmgpfpaanlaa
open Go Go.RowKit Go.Sx
set_option linter.unusedVariables false
set_option linter.unusedSimpArgs false
theorem waits_drop (own : List RR) (id t : Id) : waits (dropO own id) t = (waits own t).filter fun y => !decide (y = id) := by
  by_cases h0 : t = id0
  · simp [waits, h0]
  · simp only [waits, if_neg h0, dropO, List.filter_map, List.filter_filter]
    congr 1
    refine List.filter_congr fun x _ => ?_
    simp [Function.comp, Bool.and_comm]
theorem waits_other {own : List RR} (hn : (own.map RR.id).Nodup) {x : RR} (hx : x ∈ own) {t : Id} (ht : t ≠ x.sup) : ((waits own t).filter fun y => !decide (y = x.id)) = waits own t := by
  refine List.filter_eq_self.2 fun y hy => ?_
  unfold waits at hy
  split at hy
  · cases hy
  · obtain ⟨z, hz, rfl⟩ := List.mem_map.1 hy
    have hz2 := List.mem_filter.1 hz
    simp only [Bool.not_eq_true', decide_eq_false_iff_not]
    intro e
    have := uniq hn hz2.1 hx e
    subst this
    exact ht (of_decide_eq_true hz2.2).symm
theorem SetOK.drop {ν : Heap} {L : RMap} {W : WMap} {own : List RR} (h : SetOK ν L W own) {x : RR} (hx : x ∈ own) {gw : GV} (hsw : Src ν gw.v 32 ((waits own x.sup).filter fun y => !decide (y = x.id)).length (idsL ((waits own x.sup).filter fun y => !decide (y = x.id)))) :
    SetOK ν (L.filter fun q => !decide (q.1 = x.id)) (upd W x.sup ⟨gw, (waits own x.sup).filter fun y => !decide (y = x.id)⟩) (dropO own x.id) := by
  have hrows : (L.filter fun q => !decide (q.1 = x.id)).map (fun q => q.2.r) = dropO own x.id := by
    rw [dropO, ← h.rows, List.filter_map]
    congr 1
    refine List.filter_congr fun q hq => ?_
    simp [Function.comp, h.keys q hq]
  refine ⟨hrows, fun q hq => h.keys q (List.mem_filter.1 hq).1, filter_nd h.nd _, fun q hq => h.grp q (List.mem_filter.1 hq).1, fun q hq => ?_, fun t => ?_⟩
  · rcases mem_upd hq with hq | rfl
    · exact h.src q hq
    · exact hsw
  · rw [mlook_upd, waits_drop]
    by_cases ht : t = x.sup
    · subst ht; simp
    · rw [if_neg ht, waits_other h.nd hx ht]
      exact h.ids t
theorem dropO_out {own : List RR} {id : Id} (h : ¬ ∃ x ∈ own, x.id = id) : dropO own id = own := List.filter_eq_self.2 fun x hx => by
  simp only [Bool.not_eq_true', decide_eq_false_iff_not]
  exact fun e => h ⟨x, hx, e⟩
theorem dropO_nd {own : List RR} (hn : (own.map RR.id).Nodup) (id : Id) : ((dropO own id).map RR.id).Nodup := filter_nd hn _
theorem dropO_len (own : List RR) (id : Id) : (dropO own id).length ≤ own.length := List.length_filter_le _ _
theorem mem_dropO {own : List RR} {id : Id} {x : RR} : x ∈ dropO own id ↔ x ∈ own ∧ x.id ≠ id := by simp [dropO]
/-- a row that neither supersedes nor outdoes another one is dropped -/
theorem drop_wd {own : List RR} (hn : (own.map RR.id).Nodup) {t : RR} (ht : t ∈ own) (hno : ∀ y ∈ own, y.id ≠ t.id → ¬ valB y t ∧ ¬ outB t y) {x : RR} (hx : x ∈ own) (hne : x.id ≠ t.id) : wdB (dropO own t.id) x.id = wdB own x.id := by
  have hx2 : x ∈ dropO own t.id := mem_dropO.2 ⟨hx, hne⟩
  rw [wd_in (dropO_nd hn _) hx2, wd_in hn hx, Bool.eq_iff_iff]
  simp only [List.any_eq_true, Bool.or_eq_true, decide_eq_true_eq]
  constructor
  · rintro ⟨y, hy, h⟩; exact ⟨y, (mem_dropO.1 hy).1, h⟩
  · rintro ⟨y, hy, h⟩
    refine ⟨y, mem_dropO.2 ⟨hy, fun e => ?_⟩, h⟩
    have := uniq hn hy ht e
    subst this
    rcases h with h | h
    · exact (hno x hx hne).1 h
    · exact (hno x hx hne).2 h
end Go.Proofs.Ytaagmgpfpaanlaa
