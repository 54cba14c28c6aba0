/- The structs: literals, equality. No conditions. -/
import Derived.Test.YtheioljidangkaaGreatStr
namespace Go.Proofs.YtheioljidangkaaGreat
open Go Go.RowKit Go.Sx
set_option linter.unusedSimpArgs false
set_option linter.unusedVariables false

def ctC (c : CT) : Array Value := (#[.string ⟨#[]⟩] ++ (idC (c.au) ++ (#[I (0)] ++ (#[.slice none 0 0] ++ (#[.string ⟨#[]⟩] ++ (#[.slice none 0 0] ++ (idC (id0) ++ (#[.string ⟨#[]⟩] ++ (#[.string ⟨#[]⟩] ++ (#[I (c.n)] ++ (#[I (c.p.h)] ++ (idC (c.p.root) ++ (#[I (c.leaf)] ++ (#[.string c.body] ++ #[]))))))))))))))
theorem ctC_size (c : CT) : (ctC c).size = 75 := by simp [ctC, idC_size]
theorem ctC_one (c : CT) : ∀ u ∈ (ctC c).toList, u.oneCell' = true := by
  intro u hu
  simp only [ctC, Array.toList_append, List.mem_append] at hu
  rcases hu with hu | hu | hu | hu | hu | hu | hu | hu | hu | hu | hu | hu | hu | hu | hu
  · simp at hu; subst hu; rfl
  · exact idC_one _ u hu
  · simp at hu; subst hu; rfl
  · simp at hu; subst hu; rfl
  · simp at hu; subst hu; rfl
  · simp at hu; subst hu; rfl
  · exact idC_one _ u hu
  · simp at hu; subst hu; rfl
  · simp at hu; subst hu; rfl
  · simp at hu; subst hu; rfl
  · simp at hu; subst hu; rfl
  · exact idC_one _ u hu
  · simp at hu; subst hu; rfl
  · simp at hu; subst hu; rfl
  · simp at hu
abbrev ctK (c : CT) : Value := .agg (ctC c)
abbrev ctL (c : CT) : List Value := (ctC c).toList
theorem ctL_len (c : CT) : (ctL c).length = 75 := by simp [ctC_size]
theorem ctL_one (c : CT) : ∀ u ∈ ctL c, u.oneCell' = true := ctC_one c
theorem ct_a1 (c : CT) (j : Nat) (hj : j < 16) : (ctC c)[1 + j]? = (idC (c.au))[j]? := by
  simp only [ctC]
  rw [skip _ _ 1 0 _ (by simp [idC_size]), subV _ _ _ (by simpa [idC_size] using hj)]
instance (c : CT) : ReadsAt Tryz.prog 28 (ctC c) 1 (.agg (idC (c.au))) := ReadsAt.agg (k := 16) (idC_size _) (fun j hj => ct_a1 c j hj)
instance (c : CT) : ReadsAt Tryz.prog 59 (ctC c) 1 (.agg (idC (c.au))) := ReadsAt.agg (k := 16) (idC_size _) (fun j hj => ct_a1 c j hj)
instance (c : CT) : ReadsAt Tryz.prog 137 (ctC c) 1 (.agg (idC (c.au))) := ReadsAt.agg (k := 16) (idC_size _) (fun j hj => ct_a1 c j hj)
instance (c : CT) : BytesAt (ctC c) 1 16 (c.au).toList := bytes_part (fun j hj => ct_a1 c j hj)
theorem ct_a17 (c : CT) : (ctC c)[17]? = some (I (0)) := by
  refine z0 ?_
  simp only [ctC]
  rw [skip _ _ 17 16 _ (by simp [idC_size]), skip _ _ 16 0 _ (by simp [idC_size]), subI]
instance (c : CT) : GetAt (ctC c) 17 (I (0)) := ⟨ct_a17 c⟩
theorem ct_a21 (c : CT) (j : Nat) (hj : j < 32) : (ctC c)[21 + j]? = (idC (id0))[j]? := by
  simp only [ctC]
  rw [skip _ _ 21 20 _ (by simp [idC_size]), skip _ _ 20 4 _ (by simp [idC_size]), skip _ _ 4 3 _ (by simp [idC_size]), skip _ _ 3 2 _ (by simp [idC_size]), skip _ _ 2 1 _ (by simp [idC_size]), skip _ _ 1 0 _ (by simp [idC_size]), subV _ _ _ (by simpa [idC_size] using hj)]
instance (c : CT) : ReadsAt Tryz.prog 36 (ctC c) 21 (.agg (idC (id0))) := ReadsAt.agg (k := 32) (idC_size _) (fun j hj => ct_a21 c j hj)
instance (c : CT) : ReadsAt Tryz.prog 37 (ctC c) 21 (.agg (idC (id0))) := ReadsAt.agg (k := 32) (idC_size _) (fun j hj => ct_a21 c j hj)
instance (c : CT) : ReadsAt Tryz.prog 161 (ctC c) 21 (.agg (idC (id0))) := ReadsAt.agg (k := 32) (idC_size _) (fun j hj => ct_a21 c j hj)
instance (c : CT) : BytesAt (ctC c) 21 32 (id0).toList := bytes_part (fun j hj => ct_a21 c j hj)
theorem ct_a55 (c : CT) : (ctC c)[55]? = some (I (c.n)) := by
  refine z0 ?_
  simp only [ctC]
  rw [skip _ _ 55 54 _ (by simp [idC_size]), skip _ _ 54 38 _ (by simp [idC_size]), skip _ _ 38 37 _ (by simp [idC_size]), skip _ _ 37 36 _ (by simp [idC_size]), skip _ _ 36 35 _ (by simp [idC_size]), skip _ _ 35 34 _ (by simp [idC_size]), skip _ _ 34 2 _ (by simp [idC_size]), skip _ _ 2 1 _ (by simp [idC_size]), skip _ _ 1 0 _ (by simp [idC_size]), subI]
instance (c : CT) : GetAt (ctC c) 55 (I (c.n)) := ⟨ct_a55 c⟩
theorem ct_a56 (c : CT) : (ctC c)[56]? = some (I (c.p.h)) := by
  refine z0 ?_
  simp only [ctC]
  rw [skip _ _ 56 55 _ (by simp [idC_size]), skip _ _ 55 39 _ (by simp [idC_size]), skip _ _ 39 38 _ (by simp [idC_size]), skip _ _ 38 37 _ (by simp [idC_size]), skip _ _ 37 36 _ (by simp [idC_size]), skip _ _ 36 35 _ (by simp [idC_size]), skip _ _ 35 3 _ (by simp [idC_size]), skip _ _ 3 2 _ (by simp [idC_size]), skip _ _ 2 1 _ (by simp [idC_size]), skip _ _ 1 0 _ (by simp [idC_size]), subI]
instance (c : CT) : GetAt (ctC c) 56 (I (c.p.h)) := ⟨ct_a56 c⟩
theorem ct_a57 (c : CT) (j : Nat) (hj : j < 16) : (ctC c)[57 + j]? = (idC (c.p.root))[j]? := by
  simp only [ctC]
  rw [skip _ _ 57 56 _ (by simp [idC_size]), skip _ _ 56 40 _ (by simp [idC_size]), skip _ _ 40 39 _ (by simp [idC_size]), skip _ _ 39 38 _ (by simp [idC_size]), skip _ _ 38 37 _ (by simp [idC_size]), skip _ _ 37 36 _ (by simp [idC_size]), skip _ _ 36 4 _ (by simp [idC_size]), skip _ _ 4 3 _ (by simp [idC_size]), skip _ _ 3 2 _ (by simp [idC_size]), skip _ _ 2 1 _ (by simp [idC_size]), skip _ _ 1 0 _ (by simp [idC_size]), subV _ _ _ (by simpa [idC_size] using hj)]
instance (c : CT) : ReadsAt Tryz.prog 28 (ctC c) 57 (.agg (idC (c.p.root))) := ReadsAt.agg (k := 16) (idC_size _) (fun j hj => ct_a57 c j hj)
instance (c : CT) : ReadsAt Tryz.prog 59 (ctC c) 57 (.agg (idC (c.p.root))) := ReadsAt.agg (k := 16) (idC_size _) (fun j hj => ct_a57 c j hj)
instance (c : CT) : ReadsAt Tryz.prog 137 (ctC c) 57 (.agg (idC (c.p.root))) := ReadsAt.agg (k := 16) (idC_size _) (fun j hj => ct_a57 c j hj)
instance (c : CT) : BytesAt (ctC c) 57 16 (c.p.root).toList := bytes_part (fun j hj => ct_a57 c j hj)
theorem ct_a73 (c : CT) : (ctC c)[73]? = some (I (c.leaf)) := by
  refine z0 ?_
  simp only [ctC]
  rw [skip _ _ 73 72 _ (by simp [idC_size]), skip _ _ 72 56 _ (by simp [idC_size]), skip _ _ 56 55 _ (by simp [idC_size]), skip _ _ 55 54 _ (by simp [idC_size]), skip _ _ 54 53 _ (by simp [idC_size]), skip _ _ 53 52 _ (by simp [idC_size]), skip _ _ 52 20 _ (by simp [idC_size]), skip _ _ 20 19 _ (by simp [idC_size]), skip _ _ 19 18 _ (by simp [idC_size]), skip _ _ 18 17 _ (by simp [idC_size]), skip _ _ 17 16 _ (by simp [idC_size]), skip _ _ 16 0 _ (by simp [idC_size]), subI]
instance (c : CT) : GetAt (ctC c) 73 (I (c.leaf)) := ⟨ct_a73 c⟩
theorem ct_pub56 (c : CT) (j : Nat) (hj : j < 17) : (ctC c)[56 + j]? = (pubC (c.p))[j]? := by
  simp only [ctC]
  rw [skip _ _ 56 55 _ (by simp [idC_size]), skip _ _ 55 39 _ (by simp [idC_size]), skip _ _ 39 38 _ (by simp [idC_size]), skip _ _ 38 37 _ (by simp [idC_size]), skip _ _ 37 36 _ (by simp [idC_size]), skip _ _ 36 35 _ (by simp [idC_size]), skip _ _ 35 3 _ (by simp [idC_size]), skip _ _ 3 2 _ (by simp [idC_size]), skip _ _ 2 1 _ (by simp [idC_size]), skip _ _ 1 0 _ (by simp [idC_size]), sub_pub _ _ hj]
instance (c : CT) : ReadsAt Tryz.prog 31 (ctC c) 56 (.agg (pubC (c.p))) := ReadsAt.agg (k := 17) (pubC_size _) (fun j hj => ct_pub56 c j hj)
instance (c : CT) : ReadsAt Tryz.prog 35 (ctC c) 56 (.agg (pubC (c.p))) := ReadsAt.agg (k := 17) (pubC_size _) (fun j hj => ct_pub56 c j hj)
instance (c : CT) : ReadsAt Tryz.prog 62 (ctC c) 0 (.agg (ctC c)) := ReadsAt.agg (k := 75) (ctC_size c) (fun j _ => by rw [Nat.zero_add])
instance (x y : CT) : WritesAt Tryz.prog 62 (ctC x) 0 (.agg (ctC y)) (ctC y) := WritesAt.whole Tryz.sizeOf62 (ctC_size _) (ctC_size _) (ctC_one _)
theorem ct_s1 (c : CT) (z : Vector UInt8 16) : splice (ctC c) 1 (idC z) = ctC { c with au := z } := by
  simp only [ctC]
  rw [sR _ _ _ 0 1 (by simp [idC_size]), sL _ _ _ (by simp [idC_size])]
instance (c : CT) (z : Vector UInt8 16) : WritesAt Tryz.prog 28 (ctC c) 1 (.agg (idC z)) (ctC { c with au := z }) := WritesAt.of Tryz.sizeOf28 (idC_size _) (idC_one _) (by rw [ctC_size]; omega) (by
  have h := (ct_s1 c z).symm
  rw [h, splice, idC_size]; rfl)
instance (c : CT) (z : Vector UInt8 16) : WritesAt Tryz.prog 59 (ctC c) 1 (.agg (idC z)) (ctC { c with au := z }) := WritesAt.of Tryz.sizeOf59 (idC_size _) (idC_one _) (by rw [ctC_size]; omega) (by
  have h := (ct_s1 c z).symm
  rw [h, splice, idC_size]; rfl)
instance (c : CT) (z : Vector UInt8 16) : WritesAt Tryz.prog 137 (ctC c) 1 (.agg (idC z)) (ctC { c with au := z }) := WritesAt.of Tryz.sizeOf137 (idC_size _) (idC_one _) (by rw [ctC_size]; omega) (by
  have h := (ct_s1 c z).symm
  rw [h, splice, idC_size]; rfl)
theorem ct_s55 (c : CT) (z : Int) : splice (ctC c) 55 (#[I z]) = ctC { c with n := z } := by
  simp only [ctC]
  rw [sR _ _ _ 54 55 (by simp [idC_size]), sR _ _ _ 38 54 (by simp [idC_size]), sR _ _ _ 37 38 (by simp [idC_size]), sR _ _ _ 36 37 (by simp [idC_size]), sR _ _ _ 35 36 (by simp [idC_size]), sR _ _ _ 34 35 (by simp [idC_size]), sR _ _ _ 2 34 (by simp [idC_size]), sR _ _ _ 1 2 (by simp [idC_size]), sR _ _ _ 0 1 (by simp [idC_size]), sL _ _ _ (by simp [idC_size])]
instance (c : CT) (z : Int) : SetAt (ctC c) 55 (I z) (ctC { c with n := z }) := ⟨by rw [ctC_size]; omega, (ct_s55 c z).symm⟩
theorem ct_s73 (c : CT) (z : Int) : splice (ctC c) 73 (#[I z]) = ctC { c with leaf := z } := by
  simp only [ctC]
  rw [sR _ _ _ 72 73 (by simp [idC_size]), sR _ _ _ 56 72 (by simp [idC_size]), sR _ _ _ 55 56 (by simp [idC_size]), sR _ _ _ 54 55 (by simp [idC_size]), sR _ _ _ 53 54 (by simp [idC_size]), sR _ _ _ 52 53 (by simp [idC_size]), sR _ _ _ 20 52 (by simp [idC_size]), sR _ _ _ 19 20 (by simp [idC_size]), sR _ _ _ 18 19 (by simp [idC_size]), sR _ _ _ 17 18 (by simp [idC_size]), sR _ _ _ 16 17 (by simp [idC_size]), sR _ _ _ 0 16 (by simp [idC_size]), sL _ _ _ (by simp [idC_size])]
instance (c : CT) (z : Int) : SetAt (ctC c) 73 (I z) (ctC { c with leaf := z }) := ⟨by rw [ctC_size]; omega, (ct_s73 c z).symm⟩
theorem ct_sp56 (c : CT) (z : Pub) : splice (ctC c) 56 (pubC z) = ctC { c with p := z } := by
  simp only [ctC]
  rw [sR _ _ _ 55 56 (by simp [idC_size]), sR _ _ _ 39 55 (by simp [idC_size]), sR _ _ _ 38 39 (by simp [idC_size]), sR _ _ _ 37 38 (by simp [idC_size]), sR _ _ _ 36 37 (by simp [idC_size]), sR _ _ _ 35 36 (by simp [idC_size]), sR _ _ _ 3 35 (by simp [idC_size]), sR _ _ _ 2 3 (by simp [idC_size]), sR _ _ _ 1 2 (by simp [idC_size]), sR _ _ _ 0 1 (by simp [idC_size]), sPub]
def cmC (m : CM) : Array Value := (#[I (m.kind)] ++ (idC (id0) ++ (#[.string ⟨#[]⟩] ++ (#[I (0)] ++ (#[.bool false] ++ (#[.slice none 0 0] ++ (#[.string ⟨#[]⟩] ++ (#[I (m.n)] ++ (#[I (m.p.h)] ++ (idC (m.p.root) ++ #[]))))))))))
theorem cmC_size (m : CM) : (cmC m).size = 56 := by simp [cmC, idC_size]
theorem cmC_one (m : CM) : ∀ u ∈ (cmC m).toList, u.oneCell' = true := by
  intro u hu
  simp only [cmC, Array.toList_append, List.mem_append] at hu
  rcases hu with hu | hu | hu | hu | hu | hu | hu | hu | hu | hu | hu
  · simp at hu; subst hu; rfl
  · exact idC_one _ u hu
  · simp at hu; subst hu; rfl
  · simp at hu; subst hu; rfl
  · simp at hu; subst hu; rfl
  · simp at hu; subst hu; rfl
  · simp at hu; subst hu; rfl
  · simp at hu; subst hu; rfl
  · simp at hu; subst hu; rfl
  · exact idC_one _ u hu
  · simp at hu
abbrev cmK (m : CM) : Value := .agg (cmC m)
abbrev cmL (m : CM) : List Value := (cmC m).toList
theorem cmL_len (m : CM) : (cmL m).length = 56 := by simp [cmC_size]
theorem cmL_one (m : CM) : ∀ u ∈ cmL m, u.oneCell' = true := cmC_one m
theorem cm_a0 (m : CM) : (cmC m)[0]? = some (I (m.kind)) := by
  refine z0 ?_
  simp only [cmC]
  rw [subI]
instance (m : CM) : GetAt (cmC m) 0 (I (m.kind)) := ⟨cm_a0 m⟩
theorem cm_a1 (m : CM) (j : Nat) (hj : j < 32) : (cmC m)[1 + j]? = (idC (id0))[j]? := by
  simp only [cmC]
  rw [skip _ _ 1 0 _ (by simp [idC_size]), subV _ _ _ (by simpa [idC_size] using hj)]
instance (m : CM) : ReadsAt Tryz.prog 36 (cmC m) 1 (.agg (idC (id0))) := ReadsAt.agg (k := 32) (idC_size _) (fun j hj => cm_a1 m j hj)
instance (m : CM) : ReadsAt Tryz.prog 37 (cmC m) 1 (.agg (idC (id0))) := ReadsAt.agg (k := 32) (idC_size _) (fun j hj => cm_a1 m j hj)
instance (m : CM) : ReadsAt Tryz.prog 161 (cmC m) 1 (.agg (idC (id0))) := ReadsAt.agg (k := 32) (idC_size _) (fun j hj => cm_a1 m j hj)
instance (m : CM) : BytesAt (cmC m) 1 32 (id0).toList := bytes_part (fun j hj => cm_a1 m j hj)
theorem cm_a34 (m : CM) : (cmC m)[34]? = some (I (0)) := by
  refine z0 ?_
  simp only [cmC]
  rw [skip _ _ 34 33 _ (by simp [idC_size]), skip _ _ 33 1 _ (by simp [idC_size]), skip _ _ 1 0 _ (by simp [idC_size]), subI]
instance (m : CM) : GetAt (cmC m) 34 (I (0)) := ⟨cm_a34 m⟩
theorem cm_a38 (m : CM) : (cmC m)[38]? = some (I (m.n)) := by
  refine z0 ?_
  simp only [cmC]
  rw [skip _ _ 38 37 _ (by simp [idC_size]), skip _ _ 37 5 _ (by simp [idC_size]), skip _ _ 5 4 _ (by simp [idC_size]), skip _ _ 4 3 _ (by simp [idC_size]), skip _ _ 3 2 _ (by simp [idC_size]), skip _ _ 2 1 _ (by simp [idC_size]), skip _ _ 1 0 _ (by simp [idC_size]), subI]
instance (m : CM) : GetAt (cmC m) 38 (I (m.n)) := ⟨cm_a38 m⟩
theorem cm_a39 (m : CM) : (cmC m)[39]? = some (I (m.p.h)) := by
  refine z0 ?_
  simp only [cmC]
  rw [skip _ _ 39 38 _ (by simp [idC_size]), skip _ _ 38 6 _ (by simp [idC_size]), skip _ _ 6 5 _ (by simp [idC_size]), skip _ _ 5 4 _ (by simp [idC_size]), skip _ _ 4 3 _ (by simp [idC_size]), skip _ _ 3 2 _ (by simp [idC_size]), skip _ _ 2 1 _ (by simp [idC_size]), skip _ _ 1 0 _ (by simp [idC_size]), subI]
instance (m : CM) : GetAt (cmC m) 39 (I (m.p.h)) := ⟨cm_a39 m⟩
theorem cm_a40 (m : CM) (j : Nat) (hj : j < 16) : (cmC m)[40 + j]? = (idC (m.p.root))[j]? := by
  simp only [cmC]
  rw [skip _ _ 40 39 _ (by simp [idC_size]), skip _ _ 39 7 _ (by simp [idC_size]), skip _ _ 7 6 _ (by simp [idC_size]), skip _ _ 6 5 _ (by simp [idC_size]), skip _ _ 5 4 _ (by simp [idC_size]), skip _ _ 4 3 _ (by simp [idC_size]), skip _ _ 3 2 _ (by simp [idC_size]), skip _ _ 2 1 _ (by simp [idC_size]), skip _ _ 1 0 _ (by simp [idC_size]), subV _ _ _ (by simpa [idC_size] using hj)]
instance (m : CM) : ReadsAt Tryz.prog 28 (cmC m) 40 (.agg (idC (m.p.root))) := ReadsAt.agg (k := 16) (idC_size _) (fun j hj => cm_a40 m j hj)
instance (m : CM) : ReadsAt Tryz.prog 59 (cmC m) 40 (.agg (idC (m.p.root))) := ReadsAt.agg (k := 16) (idC_size _) (fun j hj => cm_a40 m j hj)
instance (m : CM) : ReadsAt Tryz.prog 137 (cmC m) 40 (.agg (idC (m.p.root))) := ReadsAt.agg (k := 16) (idC_size _) (fun j hj => cm_a40 m j hj)
instance (m : CM) : BytesAt (cmC m) 40 16 (m.p.root).toList := bytes_part (fun j hj => cm_a40 m j hj)
theorem cm_pub39 (m : CM) (j : Nat) (hj : j < 17) : (cmC m)[39 + j]? = (pubC (m.p))[j]? := by
  simp only [cmC]
  rw [skip _ _ 39 38 _ (by simp [idC_size]), skip _ _ 38 6 _ (by simp [idC_size]), skip _ _ 6 5 _ (by simp [idC_size]), skip _ _ 5 4 _ (by simp [idC_size]), skip _ _ 4 3 _ (by simp [idC_size]), skip _ _ 3 2 _ (by simp [idC_size]), skip _ _ 2 1 _ (by simp [idC_size]), skip _ _ 1 0 _ (by simp [idC_size]), sub_pub _ _ hj]
instance (m : CM) : ReadsAt Tryz.prog 31 (cmC m) 39 (.agg (pubC (m.p))) := ReadsAt.agg (k := 17) (pubC_size _) (fun j hj => cm_pub39 m j hj)
instance (m : CM) : ReadsAt Tryz.prog 35 (cmC m) 39 (.agg (pubC (m.p))) := ReadsAt.agg (k := 17) (pubC_size _) (fun j hj => cm_pub39 m j hj)
instance (m : CM) : ReadsAt Tryz.prog 65 (cmC m) 0 (.agg (cmC m)) := ReadsAt.agg (k := 56) (cmC_size m) (fun j _ => by rw [Nat.zero_add])
instance (x y : CM) : WritesAt Tryz.prog 65 (cmC x) 0 (.agg (cmC y)) (cmC y) := WritesAt.whole Tryz.sizeOf65 (cmC_size _) (cmC_size _) (cmC_one _)
theorem cm_s0 (m : CM) (z : Int) : splice (cmC m) 0 (#[I z]) = cmC { m with kind := z } := by
  simp only [cmC]
  rw [sL _ _ _ (by simp [idC_size])]
instance (m : CM) (z : Int) : SetAt (cmC m) 0 (I z) (cmC { m with kind := z }) := ⟨by rw [cmC_size]; omega, (cm_s0 m z).symm⟩
theorem cm_s38 (m : CM) (z : Int) : splice (cmC m) 38 (#[I z]) = cmC { m with n := z } := by
  simp only [cmC]
  rw [sR _ _ _ 37 38 (by simp [idC_size]), sR _ _ _ 5 37 (by simp [idC_size]), sR _ _ _ 4 5 (by simp [idC_size]), sR _ _ _ 3 4 (by simp [idC_size]), sR _ _ _ 2 3 (by simp [idC_size]), sR _ _ _ 1 2 (by simp [idC_size]), sR _ _ _ 0 1 (by simp [idC_size]), sL _ _ _ (by simp [idC_size])]
instance (m : CM) (z : Int) : SetAt (cmC m) 38 (I z) (cmC { m with n := z }) := ⟨by rw [cmC_size]; omega, (cm_s38 m z).symm⟩
theorem cm_sp39 (m : CM) (z : Pub) : splice (cmC m) 39 (pubC z) = cmC { m with p := z } := by
  simp only [cmC]
  rw [sR _ _ _ 38 39 (by simp [idC_size]), sR _ _ _ 6 38 (by simp [idC_size]), sR _ _ _ 5 6 (by simp [idC_size]), sR _ _ _ 4 5 (by simp [idC_size]), sR _ _ _ 3 4 (by simp [idC_size]), sR _ _ _ 2 3 (by simp [idC_size]), sR _ _ _ 1 2 (by simp [idC_size]), sR _ _ _ 0 1 (by simp [idC_size]), sPub]
theorem ct_s74 (c : CT) (z : ByteArray) : splice (ctC c) 74 #[.string z] = ctC { c with body := z } := by
  simp only [ctC]
  rw [sR _ _ _ 73 74 (by simp [idC_size]), sR _ _ _ 57 73 (by simp [idC_size]), sR _ _ _ 56 57 (by simp [idC_size]), sR _ _ _ 55 56 (by simp [idC_size]), sR _ _ _ 54 55 (by simp [idC_size]), sR _ _ _ 53 54 (by simp [idC_size]), sR _ _ _ 21 53 (by simp [idC_size]), sR _ _ _ 20 21 (by simp [idC_size]), sR _ _ _ 19 20 (by simp [idC_size]), sR _ _ _ 18 19 (by simp [idC_size]), sR _ _ _ 17 18 (by simp [idC_size]), sR _ _ _ 1 17 (by simp [idC_size]), sR _ _ _ 0 1 (by simp [idC_size]), sL _ _ _ (by simp)]
theorem pub_s1 (p : Pub) (z : Au) : splice (pubC p) 1 (idC z) = pubC { p with root := z } := by
  simp only [pubC]
  rw [sR _ _ _ 0 1 (by simp), sL _ _ _ (by simp [idC_size])]
def pub0 : Pub := ⟨0, au0⟩
def rk0 : RK := ⟨id0, au0, 0, pub0, 0, pub0⟩
def kk0 : KK := ⟨0, pub0, 0, id0⟩
def pl0 : Pl := ⟨au0, 0, pub0⟩
def ct0 : CT := ⟨au0, 0, pub0, 0, ⟨#[]⟩⟩
def cm0 : CM := ⟨0, 0, pub0⟩
set_option maxRecDepth 100000 in
theorem zero31 (w : World) : (zeroValue 31).run Tryz.prog w = .ok (.agg (pubC pub0)) w := by rw [Tryz.zeroValue31]; simp only [pubC, pub0, pub0]; rw [idC0]; rfl
instance : ZeroOf Tryz.prog 31 (pubC pub0) := ⟨_, zero31, rfl⟩
set_option maxRecDepth 100000 in
theorem zero35 (w : World) : (zeroValue 35).run Tryz.prog w = .ok (.agg (pubC pub0)) w := by rw [Tryz.zeroValue35]; simp only [pubC, pub0, pub0]; rw [idC0]; rfl
instance : ZeroOf Tryz.prog 35 (pubC pub0) := ⟨_, zero35, rfl⟩
set_option maxRecDepth 100000 in
theorem zero53 (w : World) : (zeroValue 53).run Tryz.prog w = .ok (.agg (rkC rk0)) w := by rw [Tryz.zeroValue53]; simp only [rkC, rk0, pub0]; rw [idC0, idC0]; rfl
instance : ZeroOf Tryz.prog 53 (rkC rk0) := ⟨_, zero53, rfl⟩
set_option maxRecDepth 100000 in
theorem zero98 (w : World) : (zeroValue 98).run Tryz.prog w = .ok (.agg (rkC rk0)) w := by rw [Tryz.zeroValue98]; simp only [rkC, rk0, pub0]; rw [idC0, idC0]; rfl
instance : ZeroOf Tryz.prog 98 (rkC rk0) := ⟨_, zero98, rfl⟩
set_option maxRecDepth 100000 in
theorem zero79 (w : World) : (zeroValue 79).run Tryz.prog w = .ok (.agg (kkC kk0)) w := by rw [Tryz.zeroValue79]; simp only [kkC, kk0, pub0]; rw [idC0, idC0]; rfl
instance : ZeroOf Tryz.prog 79 (kkC kk0) := ⟨_, zero79, rfl⟩
set_option maxRecDepth 100000 in
theorem zero39 (w : World) : (zeroValue 39).run Tryz.prog w = .ok (.agg (kkC kk0)) w := by rw [Tryz.zeroValue39]; simp only [kkC, kk0, pub0]; rw [idC0, idC0]; rfl
instance : ZeroOf Tryz.prog 39 (kkC kk0) := ⟨_, zero39, rfl⟩
set_option maxRecDepth 100000 in
theorem zero96 (w : World) : (zeroValue 96).run Tryz.prog w = .ok (.agg (plC pl0)) w := by rw [Tryz.zeroValue96]; simp only [plC, pl0, pub0]; rw [idC0]; rfl
instance : ZeroOf Tryz.prog 96 (plC pl0) := ⟨_, zero96, rfl⟩
set_option maxRecDepth 100000 in
theorem zero62 (w : World) : (zeroValue 62).run Tryz.prog w = .ok (.agg (ctC ct0)) w := by rw [Tryz.zeroValue62]; simp only [ctC, ct0, pub0]; rw [idC0, idC0]; rfl
instance : ZeroOf Tryz.prog 62 (ctC ct0) := ⟨_, zero62, rfl⟩
set_option maxRecDepth 100000 in
theorem zero65 (w : World) : (zeroValue 65).run Tryz.prog w = .ok (.agg (cmC cm0)) w := by rw [Tryz.zeroValue65]; simp only [cmC, cm0, pub0]; rw [idC0, idC0]; rfl
instance : ZeroOf Tryz.prog 65 (cmC cm0) := ⟨_, zero65, rfl⟩
theorem fill_pub31_0_1 (h : Int) (r : Au) : fillS (pubC pub0) [(0, #[I h]), (1, (idC r))] = pubC (⟨h, r⟩) := by
  rw [fillS, pub_s0]; rw [fillS, pub_s1]; rw [fillS]; try rfl
instance (h : Int) (r : Au) : Builds Tryz.prog 31 [(0, I h), (1, .agg (idC r))] (pubC (⟨h, r⟩)) := Builds.struct inferInstance Tryz.underlying31 (by kernel_rfl) (#[(0, 1), (1, 16)] : Array (Nat × Nat)) (by kernel_rfl) _ (by simp [placed, Value.cells, idC_size, pubC_size, plC_size]) (by simp [pubC_size, idC_size, pubC_size, plC_size]) (fill_pub31_0_1 h r)
theorem fill_pub35_0_1 (h : Int) (r : Au) : fillS (pubC pub0) [(0, #[I h]), (1, (idC r))] = pubC (⟨h, r⟩) := by
  rw [fillS, pub_s0]; rw [fillS, pub_s1]; rw [fillS]; try rfl
instance (h : Int) (r : Au) : Builds Tryz.prog 35 [(0, I h), (1, .agg (idC r))] (pubC (⟨h, r⟩)) := Builds.struct inferInstance Tryz.underlying35 (by kernel_rfl) (#[(0, 1), (1, 16)] : Array (Nat × Nat)) (by kernel_rfl) _ (by simp [placed, Value.cells, idC_size, pubC_size, plC_size]) (by simp [pubC_size, idC_size, pubC_size, plC_size]) (fill_pub35_0_1 h r)
theorem rk_spl (r : RK) (z : Pl) : splice (rkC r) 32 (plC z) = rkC { r with au := z.au, n := z.n, p := z.p } := by
  have e : rkC r = idC r.id ++ (plC ⟨r.au, r.n, r.p⟩ ++ (#[I r.leaf] ++ (#[I r.q.h] ++ (idC r.q.root ++ #[])))) := by simp [rkC, plC, Array.append_assoc]
  rw [e, sR _ _ _ 0 32 (by simp [idC_size]), sL _ _ _ (by simp [plC_size])]
  simp [rkC, plC, Array.append_assoc]
theorem fill_pl96_0_1_2 (a : Au) (n : Int) (p : Pub) : fillS (plC pl0) [(0, (idC a)), (16, #[I n]), (17, (pubC p))] = plC (⟨a, n, p⟩) := by
  rw [fillS, pl_s0]; rw [fillS, pl_s16]; rw [fillS, pl_sp17]; rw [fillS]; try rfl
instance (a : Au) (n : Int) (p : Pub) : Builds Tryz.prog 96 [(0, .agg (idC a)), (1, I n), (2, .agg (pubC p))] (plC (⟨a, n, p⟩)) := Builds.struct inferInstance Tryz.underlying96 (by kernel_rfl) (#[(0, 16), (16, 1), (17, 17)] : Array (Nat × Nat)) (by kernel_rfl) _ (by simp [placed, Value.cells, idC_size, pubC_size, plC_size]) (by simp [plC_size, idC_size, pubC_size, plC_size]) (fill_pl96_0_1_2 a n p)
theorem fill_rk98_0_1_2_3 (i : Id) (x : Pl) (l : Int) (q : Pub) : fillS (rkC rk0) [(0, (idC i)), (32, (plC x)), (66, #[I l]), (67, (pubC q))] = rkC (⟨i, x.au, x.n, x.p, l, q⟩) := by
  rw [fillS, rk_s0]; rw [fillS, rk_spl]; rw [fillS, rk_s66]; rw [fillS, rk_sp67]; rw [fillS]; try rfl
instance (i : Id) (x : Pl) (l : Int) (q : Pub) : Builds Tryz.prog 98 [(0, .agg (idC i)), (1, .agg (plC x)), (2, I l), (3, .agg (pubC q))] (rkC (⟨i, x.au, x.n, x.p, l, q⟩)) := Builds.struct inferInstance Tryz.underlying98 (by kernel_rfl) (#[(0, 32), (32, 34), (66, 1), (67, 17)] : Array (Nat × Nat)) (by kernel_rfl) _ (by simp [placed, Value.cells, idC_size, pubC_size, plC_size]) (by simp [rkC_size, idC_size, pubC_size, plC_size]) (fill_rk98_0_1_2_3 i x l q)
theorem fill_rk53_0_1_2_3_5 (i : Id) (a : Au) (n : Int) (p : Pub) (q : Pub) : fillS (rkC rk0) [(0, (idC i)), (32, (idC a)), (48, #[I n]), (49, (pubC p)), (67, (pubC q))] = rkC (⟨i, a, n, p, 0, q⟩) := by
  rw [fillS, rk_s0]; rw [fillS, rk_s32]; rw [fillS, rk_s48]; rw [fillS, rk_sp49]; rw [fillS, rk_sp67]; rw [fillS]; try rfl
instance (i : Id) (a : Au) (n : Int) (p : Pub) (q : Pub) : Builds Tryz.prog 53 [(0, .agg (idC i)), (1, .agg (idC a)), (2, I n), (3, .agg (pubC p)), (5, .agg (pubC q))] (rkC (⟨i, a, n, p, 0, q⟩)) := Builds.struct inferInstance Tryz.underlying53 (by kernel_rfl) (#[(0, 32), (32, 16), (48, 1), (49, 17), (66, 1), (67, 17)] : Array (Nat × Nat)) (by kernel_rfl) _ (by simp [placed, Value.cells, idC_size, pubC_size, plC_size]) (by simp [rkC_size, idC_size, pubC_size, plC_size]) (fill_rk53_0_1_2_3_5 i a n p q)
theorem fill_kk79_0_1_2 (n : Int) (p : Pub) (l : Int) : fillS (kkC kk0) [(0, #[I n]), (1, (pubC p)), (18, #[I l])] = kkC (⟨n, p, l, id0⟩) := by
  rw [fillS, kk_s0]; rw [fillS, kk_sp1]; rw [fillS, kk_s18]; rw [fillS]; try rfl
instance (n : Int) (p : Pub) (l : Int) : Builds Tryz.prog 79 [(0, I n), (1, .agg (pubC p)), (2, I l)] (kkC (⟨n, p, l, id0⟩)) := Builds.struct inferInstance Tryz.underlying79 (by kernel_rfl) (#[(0, 1), (1, 17), (18, 1), (19, 32)] : Array (Nat × Nat)) (by kernel_rfl) _ (by simp [placed, Value.cells, idC_size, pubC_size, plC_size]) (by simp [kkC_size, idC_size, pubC_size, plC_size]) (fill_kk79_0_1_2 n p l)
theorem fill_kk39_0_1_2 (n : Int) (p : Pub) (l : Int) : fillS (kkC kk0) [(0, #[I n]), (1, (pubC p)), (18, #[I l])] = kkC (⟨n, p, l, id0⟩) := by
  rw [fillS, kk_s0]; rw [fillS, kk_sp1]; rw [fillS, kk_s18]; rw [fillS]; try rfl
instance (n : Int) (p : Pub) (l : Int) : Builds Tryz.prog 39 [(0, I n), (1, .agg (pubC p)), (2, I l)] (kkC (⟨n, p, l, id0⟩)) := Builds.struct inferInstance Tryz.underlying39 (by kernel_rfl) (#[(0, 1), (1, 17), (18, 1), (19, 32)] : Array (Nat × Nat)) (by kernel_rfl) _ (by simp [placed, Value.cells, idC_size, pubC_size, plC_size]) (by simp [kkC_size, idC_size, pubC_size, plC_size]) (fill_kk39_0_1_2 n p l)
theorem fill_kk39_0_1_2_3 (n : Int) (p : Pub) (l : Int) (x : Id) : fillS (kkC kk0) [(0, #[I n]), (1, (pubC p)), (18, #[I l]), (19, (idC x))] = kkC (⟨n, p, l, x⟩) := by
  rw [fillS, kk_s0]; rw [fillS, kk_sp1]; rw [fillS, kk_s18]; rw [fillS, kk_s19]; rw [fillS]; try rfl
instance (n : Int) (p : Pub) (l : Int) (x : Id) : Builds Tryz.prog 39 [(0, I n), (1, .agg (pubC p)), (2, I l), (3, .agg (idC x))] (kkC (⟨n, p, l, x⟩)) := Builds.struct inferInstance Tryz.underlying39 (by kernel_rfl) (#[(0, 1), (1, 17), (18, 1), (19, 32)] : Array (Nat × Nat)) (by kernel_rfl) _ (by simp [placed, Value.cells, idC_size, pubC_size, plC_size]) (by simp [kkC_size, idC_size, pubC_size, plC_size]) (fill_kk39_0_1_2_3 n p l x)
theorem fill_kk39_1_2_3 (p : Pub) (l : Int) (x : Id) : fillS (kkC kk0) [(1, (pubC p)), (18, #[I l]), (19, (idC x))] = kkC (⟨0, p, l, x⟩) := by
  rw [fillS, kk_sp1]; rw [fillS, kk_s18]; rw [fillS, kk_s19]; rw [fillS]; try rfl
instance (p : Pub) (l : Int) (x : Id) : Builds Tryz.prog 39 [(1, .agg (pubC p)), (2, I l), (3, .agg (idC x))] (kkC (⟨0, p, l, x⟩)) := Builds.struct inferInstance Tryz.underlying39 (by kernel_rfl) (#[(0, 1), (1, 17), (18, 1), (19, 32)] : Array (Nat × Nat)) (by kernel_rfl) _ (by simp [placed, Value.cells, idC_size, pubC_size, plC_size]) (by simp [kkC_size, idC_size, pubC_size, plC_size]) (fill_kk39_1_2_3 p l x)
theorem fill_kk39_  : fillS (kkC kk0) [] = kkC (kk0) := by
  rfl
instance  : Builds Tryz.prog 39 [] (kkC (kk0)) := Builds.struct inferInstance Tryz.underlying39 (by kernel_rfl) (#[(0, 1), (1, 17), (18, 1), (19, 32)] : Array (Nat × Nat)) (by kernel_rfl) _ (by simp [placed, Value.cells, idC_size, pubC_size, plC_size]) (by simp [kkC_size, idC_size, pubC_size, plC_size]) (fill_kk39_ )
theorem fill_ct62_1_9_10_11_12 (a : Au) (n : Int) (p : Pub) (l : Int) (s : ByteArray) : fillS (ctC ct0) [(1, (idC a)), (55, #[I n]), (56, (pubC p)), (73, #[I l]), (74, #[.string s])] = ctC (⟨a, n, p, l, s⟩) := by
  rw [fillS, ct_s1]; rw [fillS, ct_s55]; rw [fillS, ct_sp56]; rw [fillS, ct_s73]; rw [fillS, ct_s74]; rw [fillS]; try rfl
instance (a : Au) (n : Int) (p : Pub) (l : Int) (s : ByteArray) : Builds Tryz.prog 62 [(1, .agg (idC a)), (9, I n), (10, .agg (pubC p)), (11, I l), (12, .string s)] (ctC (⟨a, n, p, l, s⟩)) := Builds.struct inferInstance Tryz.underlying62 (by kernel_rfl) (#[(0, 1), (1, 16), (17, 1), (18, 1), (19, 1), (20, 1), (21, 32), (53, 1), (54, 1), (55, 1), (56, 17), (73, 1), (74, 1)] : Array (Nat × Nat)) (by kernel_rfl) _ (by simp [placed, Value.cells, idC_size, pubC_size, plC_size]) (by simp [ctC_size, idC_size, pubC_size, plC_size]) (fill_ct62_1_9_10_11_12 a n p l s)
theorem fill_ct62_1_9_10_11 (a : Au) (n : Int) (p : Pub) (l : Int) : fillS (ctC ct0) [(1, (idC a)), (55, #[I n]), (56, (pubC p)), (73, #[I l])] = ctC (⟨a, n, p, l, ⟨#[]⟩⟩) := by
  rw [fillS, ct_s1]; rw [fillS, ct_s55]; rw [fillS, ct_sp56]; rw [fillS, ct_s73]; rw [fillS]; try rfl
instance (a : Au) (n : Int) (p : Pub) (l : Int) : Builds Tryz.prog 62 [(1, .agg (idC a)), (9, I n), (10, .agg (pubC p)), (11, I l)] (ctC (⟨a, n, p, l, ⟨#[]⟩⟩)) := Builds.struct inferInstance Tryz.underlying62 (by kernel_rfl) (#[(0, 1), (1, 16), (17, 1), (18, 1), (19, 1), (20, 1), (21, 32), (53, 1), (54, 1), (55, 1), (56, 17), (73, 1), (74, 1)] : Array (Nat × Nat)) (by kernel_rfl) _ (by simp [placed, Value.cells, idC_size, pubC_size, plC_size]) (by simp [ctC_size, idC_size, pubC_size, plC_size]) (fill_ct62_1_9_10_11 a n p l)
theorem fill_ct62_1_10_11 (a : Au) (p : Pub) (l : Int) : fillS (ctC ct0) [(1, (idC a)), (56, (pubC p)), (73, #[I l])] = ctC (⟨a, 0, p, l, ⟨#[]⟩⟩) := by
  rw [fillS, ct_s1]; rw [fillS, ct_sp56]; rw [fillS, ct_s73]; rw [fillS]; try rfl
instance (a : Au) (p : Pub) (l : Int) : Builds Tryz.prog 62 [(1, .agg (idC a)), (10, .agg (pubC p)), (11, I l)] (ctC (⟨a, 0, p, l, ⟨#[]⟩⟩)) := Builds.struct inferInstance Tryz.underlying62 (by kernel_rfl) (#[(0, 1), (1, 16), (17, 1), (18, 1), (19, 1), (20, 1), (21, 32), (53, 1), (54, 1), (55, 1), (56, 17), (73, 1), (74, 1)] : Array (Nat × Nat)) (by kernel_rfl) _ (by simp [placed, Value.cells, idC_size, pubC_size, plC_size]) (by simp [ctC_size, idC_size, pubC_size, plC_size]) (fill_ct62_1_10_11 a p l)
theorem fill_cm65_0_7_8 (k : Int) (n : Int) (p : Pub) : fillS (cmC cm0) [(0, #[I k]), (38, #[I n]), (39, (pubC p))] = cmC (⟨k, n, p⟩) := by
  rw [fillS, cm_s0]; rw [fillS, cm_s38]; rw [fillS, cm_sp39]; rw [fillS]; try rfl
instance (k : Int) (n : Int) (p : Pub) : Builds Tryz.prog 65 [(0, I k), (7, I n), (8, .agg (pubC p))] (cmC (⟨k, n, p⟩)) := Builds.struct inferInstance Tryz.underlying65 (by kernel_rfl) (#[(0, 1), (1, 32), (33, 1), (34, 1), (35, 1), (36, 1), (37, 1), (38, 1), (39, 17)] : Array (Nat × Nat)) (by kernel_rfl) _ (by simp [placed, Value.cells, idC_size, pubC_size, plC_size]) (by simp [cmC_size, idC_size, pubC_size, plC_size]) (fill_cm65_0_7_8 k n p)
instance (b : UInt8) : Builds Tryz.prog 36 [(31, u8v b)] (idC (id0.set 31 b)) := Builds.array (k := 1) inferInstance Tryz.underlying36 Tryz.sizeOf5 [(31, #[u8v b])] rfl (by simp [idC_size]) (idC_set id0 31 (by omega) b)
instance (b : UInt8) : Builds Tryz.prog 37 [(0, u8v b)] (idC (id0.set 0 b)) := Builds.array (k := 1) inferInstance Tryz.underlying37 Tryz.sizeOf5 [(0, #[u8v b])] rfl (by simp [idC_size]) (idC_set id0 0 (by omega) b)
instance : Builds Tryz.prog 37 [(0, .int .u8 1)] (idC (id0.set 0 1)) := inferInstanceAs (Builds Tryz.prog 37 [(0, u8v 1)] (idC (id0.set 0 1)))
instance : Builds Tryz.prog 37 [(0, .int .u8 2)] (idC (id0.set 0 2)) := inferInstanceAs (Builds Tryz.prog 37 [(0, u8v 2)] (idC (id0.set 0 2)))
theorem eq_pub31T (f0 f1 : Field) (hU : Tryz.prog.underlying 31 = some (.struct #[f0, f1])) (hp : Tryz.prog.stoodInHeld 31 = false) (h0 : f0.name ≠ "_" ∧ f0.type = 3 ∧ f0.offset = 0) (h1 : f1.name ≠ "_" ∧ f1.type = 28 ∧ f1.offset = 1) {d : Nat} (hd : 3 ≤ d) (x y : Pub) (w : World) : (Op.equalIn d 31 (.agg (pubC x)) (.agg (pubC y))).run Tryz.prog w = .ok (decide (x = y)) w := by
  obtain ⟨d, rfl⟩ : ∃ e, d = e + 1 := ⟨d - 1, by omega⟩
  have h := (eqFields_step h0.1 (by rw [h0.2.1, h0.2.2]; exact part_at Tryz.isAgg3 (ga (pub_a0 x)) w) (by rw [h0.2.1, h0.2.2]; exact part_at Tryz.isAgg3 (ga (pub_a0 y)) w) (by rw [h0.2.1]; obtain ⟨e, rfl⟩ : ∃ e, d = e + 1 := ⟨d - 1, by omega⟩; exact eq_intN e _ _ w)
    (eqFields_step h1.1 (by rw [h1.2.1, h1.2.2]; exact part_in Tryz.isAgg28 Tryz.sizeOf28 (idC_size _) (fun j hj => pub_a1 x j hj) w) (by rw [h1.2.1, h1.2.2]; exact part_in Tryz.isAgg28 Tryz.sizeOf28 (idC_size _) (fun j hj => pub_a1 y j hj) w) (by rw [h1.2.1]; exact eq_vecN d (d - 2) (by omega) 28 Tryz.underlying28 _ _ w)
    (by simp [Op.eqFields] : (Op.eqFields d (pubC x) (pubC y) []).run Tryz.prog w = .ok true w)))
  refine (eq_struct (T := 31) (fs := [f0, f1]) hU hp d (pubC x) (pubC y) w h).trans (congrArg (fun b => Result.ok b w) ?_)
  clear h
  rw [Bool.eq_iff_iff]
  obtain ⟨h1, r1⟩ := x
  obtain ⟨h2, r2⟩ := y
  simp [and_assoc]
theorem eq_pub31 {d : Nat} (hd : 3 ≤ d) (x y : Pub) (w : World) : (Op.equalIn d 31 (.agg (pubC x)) (.agg (pubC y))).run Tryz.prog w = .ok (decide (x = y)) w :=
  eq_pub31T _ _ Tryz.underlying31 (by kernel_rfl) ⟨by decide, rfl, rfl⟩ ⟨by decide, rfl, rfl⟩ hd x y w
theorem eq_pub35T (f0 f1 : Field) (hU : Tryz.prog.underlying 35 = some (.struct #[f0, f1])) (hp : Tryz.prog.stoodInHeld 35 = false) (h0 : f0.name ≠ "_" ∧ f0.type = 3 ∧ f0.offset = 0) (h1 : f1.name ≠ "_" ∧ f1.type = 28 ∧ f1.offset = 1) {d : Nat} (hd : 3 ≤ d) (x y : Pub) (w : World) : (Op.equalIn d 35 (.agg (pubC x)) (.agg (pubC y))).run Tryz.prog w = .ok (decide (x = y)) w := by
  obtain ⟨d, rfl⟩ : ∃ e, d = e + 1 := ⟨d - 1, by omega⟩
  have h := (eqFields_step h0.1 (by rw [h0.2.1, h0.2.2]; exact part_at Tryz.isAgg3 (ga (pub_a0 x)) w) (by rw [h0.2.1, h0.2.2]; exact part_at Tryz.isAgg3 (ga (pub_a0 y)) w) (by rw [h0.2.1]; obtain ⟨e, rfl⟩ : ∃ e, d = e + 1 := ⟨d - 1, by omega⟩; exact eq_intN e _ _ w)
    (eqFields_step h1.1 (by rw [h1.2.1, h1.2.2]; exact part_in Tryz.isAgg28 Tryz.sizeOf28 (idC_size _) (fun j hj => pub_a1 x j hj) w) (by rw [h1.2.1, h1.2.2]; exact part_in Tryz.isAgg28 Tryz.sizeOf28 (idC_size _) (fun j hj => pub_a1 y j hj) w) (by rw [h1.2.1]; exact eq_vecN d (d - 2) (by omega) 28 Tryz.underlying28 _ _ w)
    (by simp [Op.eqFields] : (Op.eqFields d (pubC x) (pubC y) []).run Tryz.prog w = .ok true w)))
  refine (eq_struct (T := 35) (fs := [f0, f1]) hU hp d (pubC x) (pubC y) w h).trans (congrArg (fun b => Result.ok b w) ?_)
  clear h
  rw [Bool.eq_iff_iff]
  obtain ⟨h1, r1⟩ := x
  obtain ⟨h2, r2⟩ := y
  simp [and_assoc]
theorem eq_pub35 {d : Nat} (hd : 3 ≤ d) (x y : Pub) (w : World) : (Op.equalIn d 35 (.agg (pubC x)) (.agg (pubC y))).run Tryz.prog w = .ok (decide (x = y)) w :=
  eq_pub35T _ _ Tryz.underlying35 (by kernel_rfl) ⟨by decide, rfl, rfl⟩ ⟨by decide, rfl, rfl⟩ hd x y w
theorem eq_pl96T (f0 f1 f2 : Field) (hU : Tryz.prog.underlying 96 = some (.struct #[f0, f1, f2])) (hp : Tryz.prog.stoodInHeld 96 = false) (h0 : f0.name ≠ "_" ∧ f0.type = 59 ∧ f0.offset = 0) (h1 : f1.name ≠ "_" ∧ f1.type = 3 ∧ f1.offset = 16) (h2 : f2.name ≠ "_" ∧ f2.type = 35 ∧ f2.offset = 17) {d : Nat} (hd : 4 ≤ d) (x y : Pl) (w : World) : (Op.equalIn d 96 (.agg (plC x)) (.agg (plC y))).run Tryz.prog w = .ok (decide (x = y)) w := by
  obtain ⟨d, rfl⟩ : ∃ e, d = e + 1 := ⟨d - 1, by omega⟩
  have h := (eqFields_step h0.1 (by rw [h0.2.1, h0.2.2]; exact part_in Tryz.isAgg59 Tryz.sizeOf59 (idC_size _) (fun j hj => pl_a0 x j hj) w) (by rw [h0.2.1, h0.2.2]; exact part_in Tryz.isAgg59 Tryz.sizeOf59 (idC_size _) (fun j hj => pl_a0 y j hj) w) (by rw [h0.2.1]; exact eq_vecN d (d - 2) (by omega) 59 Tryz.underlying59 _ _ w)
    (eqFields_step h1.1 (by rw [h1.2.1, h1.2.2]; exact part_at Tryz.isAgg3 (ga (pl_a16 x)) w) (by rw [h1.2.1, h1.2.2]; exact part_at Tryz.isAgg3 (ga (pl_a16 y)) w) (by rw [h1.2.1]; obtain ⟨e, rfl⟩ : ∃ e, d = e + 1 := ⟨d - 1, by omega⟩; exact eq_intN e _ _ w)
    (eqFields_step h2.1 (by rw [h2.2.1, h2.2.2]; exact part_in Tryz.isAgg35 Tryz.sizeOf35 (pubC_size _) (fun j hj => pl_pub17 x j hj) w) (by rw [h2.2.1, h2.2.2]; exact part_in Tryz.isAgg35 Tryz.sizeOf35 (pubC_size _) (fun j hj => pl_pub17 y j hj) w) (by rw [h2.2.1]; exact eq_pub35 (show 3 ≤ d by omega) _ _ w)
    (by simp [Op.eqFields] : (Op.eqFields d (plC x) (plC y) []).run Tryz.prog w = .ok true w))))
  refine (eq_struct (T := 96) (fs := [f0, f1, f2]) hU hp d (plC x) (plC y) w h).trans (congrArg (fun b => Result.ok b w) ?_)
  clear h
  rw [Bool.eq_iff_iff]
  obtain ⟨a1, n1, ⟨h1, r1⟩⟩ := x
  obtain ⟨a2, n2, ⟨h2, r2⟩⟩ := y
  simp [and_assoc]
theorem eq_pl96 {d : Nat} (hd : 4 ≤ d) (x y : Pl) (w : World) : (Op.equalIn d 96 (.agg (plC x)) (.agg (plC y))).run Tryz.prog w = .ok (decide (x = y)) w :=
  eq_pl96T _ _ _ Tryz.underlying96 (by kernel_rfl) ⟨by decide, rfl, rfl⟩ ⟨by decide, rfl, rfl⟩ ⟨by decide, rfl, rfl⟩ hd x y w
theorem eq_rk98T (f0 f1 f2 f3 : Field) (hU : Tryz.prog.underlying 98 = some (.struct #[f0, f1, f2, f3])) (hp : Tryz.prog.stoodInHeld 98 = false) (h0 : f0.name ≠ "_" ∧ f0.type = 37 ∧ f0.offset = 0) (h1 : f1.name ≠ "_" ∧ f1.type = 96 ∧ f1.offset = 32) (h2 : f2.name ≠ "_" ∧ f2.type = 3 ∧ f2.offset = 66) (h3 : f3.name ≠ "_" ∧ f3.type = 35 ∧ f3.offset = 67) {d : Nat} (hd : 5 ≤ d) (x y : RK) (w : World) : (Op.equalIn d 98 (.agg (rkC x)) (.agg (rkC y))).run Tryz.prog w = .ok (decide (x = y)) w := by
  obtain ⟨d, rfl⟩ : ∃ e, d = e + 1 := ⟨d - 1, by omega⟩
  have h := (eqFields_step h0.1 (by rw [h0.2.1, h0.2.2]; exact part_in Tryz.isAgg37 Tryz.sizeOf37 (idC_size _) (fun j hj => rk_a0 x j hj) w) (by rw [h0.2.1, h0.2.2]; exact part_in Tryz.isAgg37 Tryz.sizeOf37 (idC_size _) (fun j hj => rk_a0 y j hj) w) (by rw [h0.2.1]; exact eq_vecN d (d - 2) (by omega) 37 Tryz.underlying37 _ _ w)
    (eqFields_step h1.1 (by rw [h1.2.1, h1.2.2]; exact part_in Tryz.isAgg96 Tryz.sizeOf96 (plC_size _) (fun j hj => rk_pl32 x j hj) w) (by rw [h1.2.1, h1.2.2]; exact part_in Tryz.isAgg96 Tryz.sizeOf96 (plC_size _) (fun j hj => rk_pl32 y j hj) w) (by rw [h1.2.1]; exact eq_pl96 (show 4 ≤ d by omega) _ _ w)
    (eqFields_step h2.1 (by rw [h2.2.1, h2.2.2]; exact part_at Tryz.isAgg3 (ga (rk_a66 x)) w) (by rw [h2.2.1, h2.2.2]; exact part_at Tryz.isAgg3 (ga (rk_a66 y)) w) (by rw [h2.2.1]; obtain ⟨e, rfl⟩ : ∃ e, d = e + 1 := ⟨d - 1, by omega⟩; exact eq_intN e _ _ w)
    (eqFields_step h3.1 (by rw [h3.2.1, h3.2.2]; exact part_in Tryz.isAgg35 Tryz.sizeOf35 (pubC_size _) (fun j hj => rk_pub67 x j hj) w) (by rw [h3.2.1, h3.2.2]; exact part_in Tryz.isAgg35 Tryz.sizeOf35 (pubC_size _) (fun j hj => rk_pub67 y j hj) w) (by rw [h3.2.1]; exact eq_pub35 (show 3 ≤ d by omega) _ _ w)
    (by simp [Op.eqFields] : (Op.eqFields d (rkC x) (rkC y) []).run Tryz.prog w = .ok true w)))))
  refine (eq_struct (T := 98) (fs := [f0, f1, f2, f3]) hU hp d (rkC x) (rkC y) w h).trans (congrArg (fun b => Result.ok b w) ?_)
  clear h
  rw [Bool.eq_iff_iff]
  obtain ⟨i1, a1, n1, ⟨h1, r1⟩, l1, ⟨g1, s1⟩⟩ := x
  obtain ⟨i2, a2, n2, ⟨h2, r2⟩, l2, ⟨g2, s2⟩⟩ := y
  simp [and_assoc]
theorem eq_rk98 {d : Nat} (hd : 5 ≤ d) (x y : RK) (w : World) : (Op.equalIn d 98 (.agg (rkC x)) (.agg (rkC y))).run Tryz.prog w = .ok (decide (x = y)) w :=
  eq_rk98T _ _ _ _ Tryz.underlying98 (by kernel_rfl) ⟨by decide, rfl, rfl⟩ ⟨by decide, rfl, rfl⟩ ⟨by decide, rfl, rfl⟩ ⟨by decide, rfl, rfl⟩ hd x y w
theorem eq_kk39T (f0 f1 f2 f3 : Field) (hU : Tryz.prog.underlying 39 = some (.struct #[f0, f1, f2, f3])) (hp : Tryz.prog.stoodInHeld 39 = false) (h0 : f0.name ≠ "_" ∧ f0.type = 3 ∧ f0.offset = 0) (h1 : f1.name ≠ "_" ∧ f1.type = 35 ∧ f1.offset = 1) (h2 : f2.name ≠ "_" ∧ f2.type = 3 ∧ f2.offset = 18) (h3 : f3.name ≠ "_" ∧ f3.type = 37 ∧ f3.offset = 19) {d : Nat} (hd : 5 ≤ d) (x y : KK) (w : World) : (Op.equalIn d 39 (.agg (kkC x)) (.agg (kkC y))).run Tryz.prog w = .ok (decide (x = y)) w := by
  obtain ⟨d, rfl⟩ : ∃ e, d = e + 1 := ⟨d - 1, by omega⟩
  have h := (eqFields_step h0.1 (by rw [h0.2.1, h0.2.2]; exact part_at Tryz.isAgg3 (ga (kk_a0 x)) w) (by rw [h0.2.1, h0.2.2]; exact part_at Tryz.isAgg3 (ga (kk_a0 y)) w) (by rw [h0.2.1]; obtain ⟨e, rfl⟩ : ∃ e, d = e + 1 := ⟨d - 1, by omega⟩; exact eq_intN e _ _ w)
    (eqFields_step h1.1 (by rw [h1.2.1, h1.2.2]; exact part_in Tryz.isAgg35 Tryz.sizeOf35 (pubC_size _) (fun j hj => kk_pub1 x j hj) w) (by rw [h1.2.1, h1.2.2]; exact part_in Tryz.isAgg35 Tryz.sizeOf35 (pubC_size _) (fun j hj => kk_pub1 y j hj) w) (by rw [h1.2.1]; exact eq_pub35 (show 3 ≤ d by omega) _ _ w)
    (eqFields_step h2.1 (by rw [h2.2.1, h2.2.2]; exact part_at Tryz.isAgg3 (ga (kk_a18 x)) w) (by rw [h2.2.1, h2.2.2]; exact part_at Tryz.isAgg3 (ga (kk_a18 y)) w) (by rw [h2.2.1]; obtain ⟨e, rfl⟩ : ∃ e, d = e + 1 := ⟨d - 1, by omega⟩; exact eq_intN e _ _ w)
    (eqFields_step h3.1 (by rw [h3.2.1, h3.2.2]; exact part_in Tryz.isAgg37 Tryz.sizeOf37 (idC_size _) (fun j hj => kk_a19 x j hj) w) (by rw [h3.2.1, h3.2.2]; exact part_in Tryz.isAgg37 Tryz.sizeOf37 (idC_size _) (fun j hj => kk_a19 y j hj) w) (by rw [h3.2.1]; exact eq_vecN d (d - 2) (by omega) 37 Tryz.underlying37 _ _ w)
    (by simp [Op.eqFields] : (Op.eqFields d (kkC x) (kkC y) []).run Tryz.prog w = .ok true w)))))
  refine (eq_struct (T := 39) (fs := [f0, f1, f2, f3]) hU hp d (kkC x) (kkC y) w h).trans (congrArg (fun b => Result.ok b w) ?_)
  clear h
  rw [Bool.eq_iff_iff]
  obtain ⟨n1, ⟨h1, r1⟩, l1, x1⟩ := x
  obtain ⟨n2, ⟨h2, r2⟩, l2, x2⟩ := y
  simp [and_assoc]
theorem eq_kk39 {d : Nat} (hd : 5 ≤ d) (x y : KK) (w : World) : (Op.equalIn d 39 (.agg (kkC x)) (.agg (kkC y))).run Tryz.prog w = .ok (decide (x = y)) w :=
  eq_kk39T _ _ _ _ Tryz.underlying39 (by kernel_rfl) ⟨by decide, rfl, rfl⟩ ⟨by decide, rfl, rfl⟩ ⟨by decide, rfl, rfl⟩ ⟨by decide, rfl, rfl⟩ hd x y w
section
variable {σ : Slots} {φ : Heap} {dst : Option Tmp} {ty : TypeId} {pos : String} {aft : Array Edge} {g : Option (Nat × Bool)}
theorem rd_eql31 {U : TypeId} {x y : Operand} {a b : Pub} (hx : ev σ x = some (pubK a)) (hy : ev σ y = some (pubK b)) : Rd Tryz.prog σ φ ⟨dst, .binOp .eql 31 x y U, ty, pos, aft, g⟩ (.bool (decide (a = b))) := rd_eqagg hx hy (by kernel_rfl) (fun w => eq_pub31 (show 3 ≤ 10000 by omega) a b w) rfl
theorem rd_neq31 {U : TypeId} {x y : Operand} {a b : Pub} (hx : ev σ x = some (pubK a)) (hy : ev σ y = some (pubK b)) : Rd Tryz.prog σ φ ⟨dst, .binOp .neq 31 x y U, ty, pos, aft, g⟩ (.bool (decide (a ≠ b))) := rd_eqagg hx hy (by kernel_rfl) (fun w => eq_pub31 (show 3 ≤ 10000 by omega) a b w) (by simp)
theorem rd_eql35 {U : TypeId} {x y : Operand} {a b : Pub} (hx : ev σ x = some (pubK a)) (hy : ev σ y = some (pubK b)) : Rd Tryz.prog σ φ ⟨dst, .binOp .eql 35 x y U, ty, pos, aft, g⟩ (.bool (decide (a = b))) := rd_eqagg hx hy (by kernel_rfl) (fun w => eq_pub35 (show 3 ≤ 10000 by omega) a b w) rfl
theorem rd_neq35 {U : TypeId} {x y : Operand} {a b : Pub} (hx : ev σ x = some (pubK a)) (hy : ev σ y = some (pubK b)) : Rd Tryz.prog σ φ ⟨dst, .binOp .neq 35 x y U, ty, pos, aft, g⟩ (.bool (decide (a ≠ b))) := rd_eqagg hx hy (by kernel_rfl) (fun w => eq_pub35 (show 3 ≤ 10000 by omega) a b w) (by simp)
theorem rd_eql98 {U : TypeId} {x y : Operand} {a b : RK} (hx : ev σ x = some (rkK a)) (hy : ev σ y = some (rkK b)) : Rd Tryz.prog σ φ ⟨dst, .binOp .eql 98 x y U, ty, pos, aft, g⟩ (.bool (decide (a = b))) := rd_eqagg hx hy (by kernel_rfl) (fun w => eq_rk98 (show 5 ≤ 10000 by omega) a b w) rfl
theorem rd_neq98 {U : TypeId} {x y : Operand} {a b : RK} (hx : ev σ x = some (rkK a)) (hy : ev σ y = some (rkK b)) : Rd Tryz.prog σ φ ⟨dst, .binOp .neq 98 x y U, ty, pos, aft, g⟩ (.bool (decide (a ≠ b))) := rd_eqagg hx hy (by kernel_rfl) (fun w => eq_rk98 (show 5 ≤ 10000 by omega) a b w) (by simp)
theorem rd_eql39 {U : TypeId} {x y : Operand} {a b : KK} (hx : ev σ x = some (kkK a)) (hy : ev σ y = some (kkK b)) : Rd Tryz.prog σ φ ⟨dst, .binOp .eql 39 x y U, ty, pos, aft, g⟩ (.bool (decide (a = b))) := rd_eqagg hx hy (by kernel_rfl) (fun w => eq_kk39 (show 5 ≤ 10000 by omega) a b w) rfl
theorem rd_neq39 {U : TypeId} {x y : Operand} {a b : KK} (hx : ev σ x = some (kkK a)) (hy : ev σ y = some (kkK b)) : Rd Tryz.prog σ φ ⟨dst, .binOp .neq 39 x y U, ty, pos, aft, g⟩ (.bool (decide (a ≠ b))) := rd_eqagg hx hy (by kernel_rfl) (fun w => eq_kk39 (show 5 ≤ 10000 by omega) a b w) (by simp)
end

end Go.Proofs.YtheioljidangkaaGreat
