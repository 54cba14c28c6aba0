/- A move: its cells. No conditions. -/
import Derived.Test.YtheioljidangkaaGreatStr
namespace Go.Proofs.YtheioljidangkaaGreat
open Go Go.RowKit Go.Sx
set_option linter.unusedSimpArgs false
set_option linter.unusedVariables false

def mvC (m : MV) : Array Value := (#[u8v (m.first)] ++ (#[u8v (m.number)] ++ (#[u8v (m.pub)] ++ (#[u8v (m.new)] ++ (#[u8v (m.leaf)] ++ (#[u8v (m.id)] ++ (#[u8v (m.spoil)] ++ #[])))))))
theorem mvC_size (m : MV) : (mvC m).size = 7 := by simp [mvC, idC_size]
theorem mvC_one (m : MV) : ∀ u ∈ (mvC m).toList, u.oneCell' = true := by
  intro u hu
  simp only [mvC, Array.toList_append, List.mem_append] at hu
  rcases hu with hu | hu | hu | hu | hu | hu | hu | hu
  · simp at hu; subst hu; rfl
  · simp at hu; subst hu; rfl
  · simp at hu; subst hu; rfl
  · simp at hu; subst hu; rfl
  · simp at hu; subst hu; rfl
  · simp at hu; subst hu; rfl
  · simp at hu; subst hu; rfl
  · simp at hu
abbrev mvK (m : MV) : Value := .agg (mvC m)
abbrev mvL (m : MV) : List Value := (mvC m).toList
theorem mvL_len (m : MV) : (mvL m).length = 7 := by simp [mvC_size]
theorem mvL_one (m : MV) : ∀ u ∈ mvL m, u.oneCell' = true := mvC_one m
class AtM (cur : Array Value) (o : Nat) (m : outParam MV) : Prop where
  go : ∀ i, i < 7 → cur[o + i]? = (mvC m)[i]?
theorem mv_a0 (m : MV) : (mvC m)[0]? = some (u8v (m.first)) := by
  refine z0 ?_
  simp only [mvC]
  rw [subI]
instance (m : MV) : GetAt (mvC m) 0 (u8v (m.first)) := ⟨mv_a0 m⟩
instance (cur : Array Value) (o : Nat) (m : MV) [h : AtM cur o m] : GetAt cur o (u8v (m.first)) := ⟨by rw [show o = o + 0 from rfl, h.go 0 (by omega)]; exact mv_a0 m⟩
theorem mv_a1 (m : MV) : (mvC m)[1]? = some (u8v (m.number)) := by
  refine z0 ?_
  simp only [mvC]
  rw [skip _ _ 1 0 _ (by simp [idC_size]), subI]
instance (m : MV) : GetAt (mvC m) 1 (u8v (m.number)) := ⟨mv_a1 m⟩
instance (cur : Array Value) (o : Nat) (m : MV) [h : AtM cur o m] : GetAt cur (o + 1) (u8v (m.number)) := ⟨by rw [show (o + 1) = o + 1 from rfl, h.go 1 (by omega)]; exact mv_a1 m⟩
theorem mv_a2 (m : MV) : (mvC m)[2]? = some (u8v (m.pub)) := by
  refine z0 ?_
  simp only [mvC]
  rw [skip _ _ 2 1 _ (by simp [idC_size]), skip _ _ 1 0 _ (by simp [idC_size]), subI]
instance (m : MV) : GetAt (mvC m) 2 (u8v (m.pub)) := ⟨mv_a2 m⟩
instance (cur : Array Value) (o : Nat) (m : MV) [h : AtM cur o m] : GetAt cur (o + 2) (u8v (m.pub)) := ⟨by rw [show (o + 2) = o + 2 from rfl, h.go 2 (by omega)]; exact mv_a2 m⟩
theorem mv_a3 (m : MV) : (mvC m)[3]? = some (u8v (m.new)) := by
  refine z0 ?_
  simp only [mvC]
  rw [skip _ _ 3 2 _ (by simp [idC_size]), skip _ _ 2 1 _ (by simp [idC_size]), skip _ _ 1 0 _ (by simp [idC_size]), subI]
instance (m : MV) : GetAt (mvC m) 3 (u8v (m.new)) := ⟨mv_a3 m⟩
instance (cur : Array Value) (o : Nat) (m : MV) [h : AtM cur o m] : GetAt cur (o + 3) (u8v (m.new)) := ⟨by rw [show (o + 3) = o + 3 from rfl, h.go 3 (by omega)]; exact mv_a3 m⟩
theorem mv_a4 (m : MV) : (mvC m)[4]? = some (u8v (m.leaf)) := by
  refine z0 ?_
  simp only [mvC]
  rw [skip _ _ 4 3 _ (by simp [idC_size]), skip _ _ 3 2 _ (by simp [idC_size]), skip _ _ 2 1 _ (by simp [idC_size]), skip _ _ 1 0 _ (by simp [idC_size]), subI]
instance (m : MV) : GetAt (mvC m) 4 (u8v (m.leaf)) := ⟨mv_a4 m⟩
instance (cur : Array Value) (o : Nat) (m : MV) [h : AtM cur o m] : GetAt cur (o + 4) (u8v (m.leaf)) := ⟨by rw [show (o + 4) = o + 4 from rfl, h.go 4 (by omega)]; exact mv_a4 m⟩
theorem mv_a5 (m : MV) : (mvC m)[5]? = some (u8v (m.id)) := by
  refine z0 ?_
  simp only [mvC]
  rw [skip _ _ 5 4 _ (by simp [idC_size]), skip _ _ 4 3 _ (by simp [idC_size]), skip _ _ 3 2 _ (by simp [idC_size]), skip _ _ 2 1 _ (by simp [idC_size]), skip _ _ 1 0 _ (by simp [idC_size]), subI]
instance (m : MV) : GetAt (mvC m) 5 (u8v (m.id)) := ⟨mv_a5 m⟩
instance (cur : Array Value) (o : Nat) (m : MV) [h : AtM cur o m] : GetAt cur (o + 5) (u8v (m.id)) := ⟨by rw [show (o + 5) = o + 5 from rfl, h.go 5 (by omega)]; exact mv_a5 m⟩
theorem mv_a6 (m : MV) : (mvC m)[6]? = some (u8v (m.spoil)) := by
  refine z0 ?_
  simp only [mvC]
  rw [skip _ _ 6 5 _ (by simp [idC_size]), skip _ _ 5 4 _ (by simp [idC_size]), skip _ _ 4 3 _ (by simp [idC_size]), skip _ _ 3 2 _ (by simp [idC_size]), skip _ _ 2 1 _ (by simp [idC_size]), skip _ _ 1 0 _ (by simp [idC_size]), subI]
instance (m : MV) : GetAt (mvC m) 6 (u8v (m.spoil)) := ⟨mv_a6 m⟩
instance (cur : Array Value) (o : Nat) (m : MV) [h : AtM cur o m] : GetAt cur (o + 6) (u8v (m.spoil)) := ⟨by rw [show (o + 6) = o + 6 from rfl, h.go 6 (by omega)]; exact mv_a6 m⟩
instance (m : MV) : ReadsAt Tryz.prog 51 (mvC m) 0 (.agg (mvC m)) := ReadsAt.agg (k := 7) (mvC_size m) (fun j _ => by rw [Nat.zero_add])
instance (cur : Array Value) (o : Nat) (m : MV) [h : AtM cur o m] : ReadsAt Tryz.prog 51 cur o (.agg (mvC m)) := ReadsAt.agg (k := 7) (mvC_size m) (fun j hj => h.go j hj)
instance (x y : MV) : WritesAt Tryz.prog 51 (mvC x) 0 (.agg (mvC y)) (mvC y) := WritesAt.whole Tryz.sizeOf51 (mvC_size _) (mvC_size _) (mvC_one _)
theorem mv_s0 (m : MV) (z : UInt8) : splice (mvC m) 0 (#[u8v z]) = mvC { m with first := z } := by
  simp only [mvC]
  rw [sL _ _ _ (by simp [idC_size])]
instance (m : MV) (z : UInt8) : SetAt (mvC m) 0 (u8v z) (mvC { m with first := z }) := ⟨by rw [mvC_size]; omega, (mv_s0 m z).symm⟩
theorem mv_s1 (m : MV) (z : UInt8) : splice (mvC m) 1 (#[u8v z]) = mvC { m with number := z } := by
  simp only [mvC]
  rw [sR _ _ _ 0 1 (by simp [idC_size]), sL _ _ _ (by simp [idC_size])]
instance (m : MV) (z : UInt8) : SetAt (mvC m) 1 (u8v z) (mvC { m with number := z }) := ⟨by rw [mvC_size]; omega, (mv_s1 m z).symm⟩
theorem mv_s2 (m : MV) (z : UInt8) : splice (mvC m) 2 (#[u8v z]) = mvC { m with pub := z } := by
  simp only [mvC]
  rw [sR _ _ _ 1 2 (by simp [idC_size]), sR _ _ _ 0 1 (by simp [idC_size]), sL _ _ _ (by simp [idC_size])]
instance (m : MV) (z : UInt8) : SetAt (mvC m) 2 (u8v z) (mvC { m with pub := z }) := ⟨by rw [mvC_size]; omega, (mv_s2 m z).symm⟩
theorem mv_s3 (m : MV) (z : UInt8) : splice (mvC m) 3 (#[u8v z]) = mvC { m with new := z } := by
  simp only [mvC]
  rw [sR _ _ _ 2 3 (by simp [idC_size]), sR _ _ _ 1 2 (by simp [idC_size]), sR _ _ _ 0 1 (by simp [idC_size]), sL _ _ _ (by simp [idC_size])]
instance (m : MV) (z : UInt8) : SetAt (mvC m) 3 (u8v z) (mvC { m with new := z }) := ⟨by rw [mvC_size]; omega, (mv_s3 m z).symm⟩
theorem mv_s4 (m : MV) (z : UInt8) : splice (mvC m) 4 (#[u8v z]) = mvC { m with leaf := z } := by
  simp only [mvC]
  rw [sR _ _ _ 3 4 (by simp [idC_size]), sR _ _ _ 2 3 (by simp [idC_size]), sR _ _ _ 1 2 (by simp [idC_size]), sR _ _ _ 0 1 (by simp [idC_size]), sL _ _ _ (by simp [idC_size])]
instance (m : MV) (z : UInt8) : SetAt (mvC m) 4 (u8v z) (mvC { m with leaf := z }) := ⟨by rw [mvC_size]; omega, (mv_s4 m z).symm⟩
theorem mv_s5 (m : MV) (z : UInt8) : splice (mvC m) 5 (#[u8v z]) = mvC { m with id := z } := by
  simp only [mvC]
  rw [sR _ _ _ 4 5 (by simp [idC_size]), sR _ _ _ 3 4 (by simp [idC_size]), sR _ _ _ 2 3 (by simp [idC_size]), sR _ _ _ 1 2 (by simp [idC_size]), sR _ _ _ 0 1 (by simp [idC_size]), sL _ _ _ (by simp [idC_size])]
instance (m : MV) (z : UInt8) : SetAt (mvC m) 5 (u8v z) (mvC { m with id := z }) := ⟨by rw [mvC_size]; omega, (mv_s5 m z).symm⟩
theorem mv_s6 (m : MV) (z : UInt8) : splice (mvC m) 6 (#[u8v z]) = mvC { m with spoil := z } := by
  simp only [mvC]
  rw [sR _ _ _ 5 6 (by simp [idC_size]), sR _ _ _ 4 5 (by simp [idC_size]), sR _ _ _ 3 4 (by simp [idC_size]), sR _ _ _ 2 3 (by simp [idC_size]), sR _ _ _ 1 2 (by simp [idC_size]), sR _ _ _ 0 1 (by simp [idC_size]), sL _ _ _ (by simp [idC_size])]
instance (m : MV) (z : UInt8) : SetAt (mvC m) 6 (u8v z) (mvC { m with spoil := z }) := ⟨by rw [mvC_size]; omega, (mv_s6 m z).symm⟩
def mv0 : MV := ⟨0, 0, 0, 0, 0, 0, 0⟩
set_option maxRecDepth 100000 in
instance : ZeroOf Tryz.prog 51 (mvC mv0) := ⟨_, Tryz.zeroValue51, by rfl⟩

end Go.Proofs.YtheioljidangkaaGreat
