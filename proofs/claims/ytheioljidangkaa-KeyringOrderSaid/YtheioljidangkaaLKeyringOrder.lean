/- 'bulletinlaw19.KeyringOrder' returns true for every input and leaves its arguments as they were. No conditions. -/
import Derived.Test.YtheioljidangkaaW28
import Derived.Test.YtheioljidangkaaOpn
namespace Go.Proofs.Ytheioljidangkaa
open Go Go.RowKit Go.Sx
set_option linter.unusedSimpArgs false
set_option linter.unusedVariables false

open Go.WideShapes Go.ChangeShapes Go.ChangeAt
theorem own_keyringOrder : ownKnob Try.prog.godebug = none := by kernel_rfl
set_option maxRecDepth 100000 in
theorem lifted_keyringOrder (os : Os) (started : os.Started) (H : Type) (enc : TypeId × Value → H) :
    ReturnsInHanded {} Try.checked os 6 .any (Rows.keyringOrderSpec.pre6 enc Try.prog Try.f6 Rows.keyringOrderRow.domain false) (Rows.keyringOrderSpec.post enc Try.prog Try.f6 false true false false) := by
  refine returnsInHanded_of_change (C := Try.checked) own_keyringOrder started (by kernel_rfl) Try.func6
    (ChangeSpec.witness6 (enc := enc) (C := Try.checked) false ⟨#[], #[.slice none 0 0, .slice none 0 0], []⟩ 8 (by kernel_rfl) (by kernel_rfl) (by kernel_rfl) (by kernel_rfl)) ?_
  intro W base args ds gs before hval0 hW hcnd _
  have hval : ∀ (j : Nat) t v, Try.f6.params[j]? = some t → args[j]? = some v → Value.okWide Try.prog W .any base t v := hval0
  have hW' := hW
  obtain ⟨p, q, hA0, hV, rfl, hfz, hnd⟩ := hW
  have hA : DataW.TrodAll enc Try.prog W 0 (fun _ => true) true Try.f6.params.toList args.toList ds p := hA0
  rw [Try.params6] at hA hval
  obtain ⟨v0, vs0, d0, ds0, p0, q0, hargs, rfl, rfl, h0, r0⟩ := trodAll_cons hA
  obtain ⟨v1, vs1, d1, ds1, p1, q1, rfl, rfl, rfl, h1, r1⟩ := trodAll_cons r0
  obtain ⟨rfl, rfl, rfl⟩ := trodAll_nil r1
  obtain rfl : args = #[v0, v1] := by cases args; simp_all
  obtain ⟨a0, ν0, hsrc0, hν0, hnd0⟩ := open_mvs (hval 0 22 v0 rfl rfl) h0
  obtain ⟨a1, ν1, hsrc1, hν1, hnd1⟩ := open_bytes (hval 1 65 v1 rfl rfl) h1
  obtain ⟨μ, hμ, hmn, hm0, hm1⟩ := join_facts hν0 hν1 hnd0 hnd1
  clear hA0 hval0
  refine Calls.mono (order_ret _ _ μ a0 (hsrc0.mono hm0) a1 (slice_le (hval 1 65 v1 rfl rfl) Try.underlying65 hsrc1) (hsrc1.mono hm1) W hμ hmn) fun e W' ⟨v, he, ho, hv⟩ => ?_
  subst hv
  exact ⟨_, he, law_post laidT (by rw [Try.params6]; kernel_rfl) hW' rfl rfl ho.below rfl Try.underlying4⟩
theorem keyringOrder_proved : Rows.KeyringOrderSaid :=
  OpenClaim.holds_of_wide 6 Try.f6 rfl rfl rfl rfl rfl rfl rfl ⟨rfl, rfl, rfl, rfl, rfl⟩ rfl rfl rfl rfl rfl (by kernel_rfl) Try.func6 (by kernel_rfl)
    (of_decide_eq_true (by kernel_rfl)) (by unfold Func.isWrapper; first | (rw [if_pos (by decide +kernel)]; kernel_rfl) | (rw [if_neg (by decide +kernel)]; exact ⟨rfl, rfl⟩))
    (fun os started H enc _ => lifted_keyringOrder os started H enc)

end Go.Proofs.Ytheioljidangkaa
