/- 'bulletinlaw19.KeyringHonest' returns true for every input and leaves its arguments as they were. No conditions. -/
import Derived.Test.YtheioljidangkaaW23
import Derived.Test.YtheioljidangkaaOpn
namespace Go.Proofs.Ytheioljidangkaa
open Go Go.RowKit Go.Sx
set_option linter.unusedSimpArgs false
set_option linter.unusedVariables false

open Go.WideShapes Go.ChangeShapes Go.ChangeAt
theorem own_keyringHonest : ownKnob Try.prog.godebug = none := by kernel_rfl
set_option maxRecDepth 100000 in
theorem lifted_keyringHonest (os : Os) (started : os.Started) (H : Type) (enc : TypeId × Value → H) :
    ReturnsInHanded {} Try.checked os 5 .any (Rows.keyringHonestSpec.pre6 enc Try.prog Try.f5 Rows.keyringHonestRow.domain false) (Rows.keyringHonestSpec.post enc Try.prog Try.f5 false true false false) := by
  refine returnsInHanded_of_change (C := Try.checked) own_keyringHonest started (by kernel_rfl) Try.func5
    (ChangeSpec.witness6 (enc := enc) (C := Try.checked) false ⟨#[], #[.agg #[.int .u8 0, .int .u8 0, .int .u8 0], .slice none 0 0, .agg #[.int .u8 0, .int .u8 0, .int .u8 0, .int .u8 0]], []⟩ 8 (by kernel_rfl) (by kernel_rfl) (by kernel_rfl) (by kernel_rfl)) ?_
  intro W base args ds gs before hval0 hW hcnd _
  have hval : ∀ (j : Nat) t v, Try.f5.params[j]? = some t → args[j]? = some v → Value.okWide Try.prog W .any base t v := hval0
  have hW' := hW
  obtain ⟨p, q, hA0, hV, rfl, hfz, hnd⟩ := hW
  have hA : DataW.TrodAll enc Try.prog W 0 (fun _ => true) true Try.f5.params.toList args.toList ds p := hA0
  rw [Try.params5] at hA hval
  obtain ⟨v0, vs0, d0, ds0, p0, q0, hargs, rfl, rfl, h0, r0⟩ := trodAll_cons hA
  obtain ⟨v1, vs1, d1, ds1, p1, q1, rfl, rfl, rfl, h1, r1⟩ := trodAll_cons r0
  obtain ⟨v2, vs2, d2, ds2, p2, q2, rfl, rfl, rfl, h2, r2⟩ := trodAll_cons r1
  obtain ⟨rfl, rfl, rfl⟩ := trodAll_nil r2
  obtain rfl : args = #[v0, v1, v2] := by cases args; simp_all
  obtain ⟨a0, rfl⟩ := open_arrV Try.underlying56 (by kernel_rfl) (hval 0 56 v0 rfl rfl) h0
  obtain ⟨a1, ν1, hsrc1, hν1, hnd1⟩ := open_mvs (hval 1 22 v1 rfl rfl) h1
  obtain ⟨a2, rfl⟩ := open_arrV Try.underlying57 (by kernel_rfl) (hval 2 57 v2 rfl rfl) h2
  clear hA0 hval0
  refine Calls.mono (honest_ret a0 _ ν1 a1 hsrc1 a2 W hν1 hnd1) fun e W' ⟨v, he, ho, hv⟩ => ?_
  subst hv
  exact ⟨_, he, law_post laidT (by rw [Try.params5]; kernel_rfl) hW' rfl rfl ho.below rfl Try.underlying4⟩
theorem keyringHonest_proved : Rows.KeyringHonestSaid :=
  OpenClaim.holds_of_wide 5 Try.f5 rfl rfl rfl rfl rfl rfl rfl ⟨rfl, rfl, rfl, rfl, rfl⟩ rfl rfl rfl rfl rfl (by kernel_rfl) Try.func5 (by kernel_rfl)
    (of_decide_eq_true (by kernel_rfl)) (by unfold Func.isWrapper; first | (rw [if_pos (by decide +kernel)]; kernel_rfl) | (rw [if_neg (by decide +kernel)]; exact ⟨rfl, rfl⟩))
    (fun os started H enc _ => lifted_keyringHonest os started H enc)

end Go.Proofs.Ytheioljidangkaa
