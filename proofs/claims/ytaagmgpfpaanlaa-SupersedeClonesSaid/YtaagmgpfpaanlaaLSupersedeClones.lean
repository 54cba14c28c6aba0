/- 'bulletinlaw41.SupersedeClones' returns true for every input and leaves its arguments as they were. No conditions. -/
import Derived.Test.YtaagmgpfpaanlaaW28
import Derived.Test.YtaagmgpfpaanlaaOpn
namespace Go.Proofs.Ytaagmgpfpaanlaa
open Go Go.RowKit Go.Sx
set_option linter.unusedSimpArgs false
set_option linter.unusedVariables false

open Go.WideShapes Go.ChangeShapes Go.ChangeAt
theorem join_facts {ν0 ν2 : Heap} {w : World} (h0 : HpOK ν0 w) (h2 : HpOK ν2 w) (n0 : (ν0.map Prod.fst).Nodup) (n2 : (ν2.map Prod.fst).Nodup) : ∃ μ : Heap, HpOK μ w ∧ (μ.map Prod.fst).Nodup ∧ (∀ p ∈ ν0, p ∈ μ) ∧ ∀ p ∈ ν2, p ∈ μ := by
  refine ⟨ν0 ++ ν2.filter (fun p => !(ν0.map Prod.fst).contains p.1), h0.append (h2.mono fun p hp => (List.mem_filter.1 hp).1), ?_, fun p hp => List.mem_append_left _ hp, fun p hp => ?_⟩
  · rw [List.map_append, List.nodup_append]
    refine ⟨n0, n2.sublist (List.filter_sublist.map _), fun a ha b hb e => ?_⟩
    subst e
    obtain ⟨q, hq, rfl⟩ := List.mem_map.1 hb
    have := (List.mem_filter.1 hq).2
    simp only [Bool.not_eq_true', List.contains_eq_mem, decide_eq_false_iff_not] at this
    exact this ha
  · by_cases hm : p.1 ∈ ν0.map Prod.fst
    · obtain ⟨⟨b, o⟩, hq, hqe⟩ := List.mem_map.1 hm
      obtain ⟨b', o'⟩ := p
      simp only at hqe
      subst hqe
      have e1 := h0 _ _ hq
      have e2 := h2 _ _ hp
      rw [e1] at e2
      cases e2
      exact List.mem_append_left _ hq
    · exact List.mem_append_right _ (List.mem_filter.2 ⟨hp, by simpa using hm⟩)

theorem own_supersedeClones : ownKnob Try.prog.godebug = none := by kernel_rfl
set_option maxRecDepth 100000 in
theorem lifted_supersedeClones (os : Os) (started : os.Started) (H : Type) (enc : TypeId × Value → H) :
    ReturnsInHanded {} Try.checked os 11 .any (Rows.supersedeClonesSpec.pre6 enc Try.prog Try.f11 Rows.supersedeClonesRow.domain false) (Rows.supersedeClonesSpec.post enc Try.prog Try.f11 false true false false) := by
  refine returnsInHanded_of_change (C := Try.checked) own_supersedeClones started (by kernel_rfl) Try.func11
    (ChangeSpec.witness6 (enc := enc) (C := Try.checked) false ⟨#[], #[.slice none 0 0, .slice none 0 0, .agg #[.int .u8 0, .int .u8 0, .int .u8 0, .int .u8 0, .int .u8 0, .int .u8 0, .int .u8 0, .int .u8 0, .int .u8 0, .int .u8 0, .int .u8 0, .int .u8 0, .int .u8 0, .int .u8 0, .int .u8 0, .int .u8 0, .int .u8 0, .int .u8 0, .int .u8 0, .int .u8 0, .int .u8 0, .int .u8 0, .int .u8 0, .int .u8 0, .int .u8 0, .int .u8 0, .int .u8 0, .int .u8 0, .int .u8 0, .int .u8 0, .int .u8 0, .int .u8 0]], []⟩ 8 (by kernel_rfl) (by kernel_rfl) (by kernel_rfl) (by kernel_rfl)) ?_
  intro W base args ds gs before hval0 hW hcnd _
  have hval : ∀ (j : Nat) t v, Try.f11.params[j]? = some t → args[j]? = some v → Value.okWide Try.prog W .any base t v := hval0
  have hW' := hW
  obtain ⟨p, q, hA0, hV, rfl, hfz, hnd⟩ := hW
  have hA : DataW.TrodAll enc Try.prog W 0 (fun _ => true) true Try.f11.params.toList args.toList ds p := hA0
  rw [Try.params11] at hA hval
  obtain ⟨v0, vs0, d0, ds0, p0, q0, hargs, rfl, rfl, h0, r0⟩ := trodAll_cons hA
  obtain ⟨v1, vs1, d1, ds1, p1, q1, rfl, rfl, rfl, h1, r1⟩ := trodAll_cons r0
  obtain ⟨v2, vs2, d2, ds2, p2, q2, rfl, rfl, rfl, h2, r2⟩ := trodAll_cons r1
  obtain ⟨rfl, rfl, rfl⟩ := trodAll_nil r2
  obtain rfl : args = #[v0, v1, v2] := by cases args; simp_all
  obtain ⟨a0, ν0, hsrc0, hcap0, hν0, hnd0⟩ := open_ops (hval 0 53 v0 rfl rfl) h0
  obtain ⟨a1, ν1, hsrc1, hcap1, hν1, hnd1⟩ := open_ops (hval 1 53 v1 rfl rfl) h1
  obtain ⟨a2, rfl⟩ := open_idV Try.underlying37 (by kernel_rfl) (hval 2 37 v2 rfl rfl) h2
  obtain ⟨μ, hμ, hmn, hm0, hm1⟩ := join_facts hν0 hν1 hnd0 hnd1
  clear hA0 hval0
  refine Calls.mono (supersedeClones_ret _ _ μ a0 a1 (hsrc0.mono hm0) (hsrc1.mono hm1) a2 W hμ hmn) fun e W' ⟨v, he, ho, hv⟩ => ?_
  subst hv
  exact ⟨_, he, law_post laidT (by rw [Try.params11]; kernel_rfl) hW' rfl rfl ho.below rfl Try.underlying4⟩
theorem supersedeClones_proved : Rows.SupersedeClonesSaid :=
  OpenClaim.holds_of_wide 11 Try.f11 rfl rfl rfl rfl rfl rfl rfl ⟨rfl, rfl, rfl, rfl, rfl⟩ rfl rfl rfl rfl rfl (by kernel_rfl) Try.func11 (by kernel_rfl)
    (of_decide_eq_true (by kernel_rfl)) (by unfold Func.isWrapper; first | (rw [if_pos (by decide +kernel)]; kernel_rfl) | (rw [if_neg (by decide +kernel)]; exact ⟨rfl, rfl⟩))
    (fun os started H enc _ => lifted_supersedeClones os started H enc)

end Go.Proofs.Ytaagmgpfpaanlaa
