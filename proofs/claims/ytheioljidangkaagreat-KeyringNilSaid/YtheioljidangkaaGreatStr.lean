/- The structs: how their cells are read and stored. No conditions. -/
import Derived.Test.YtheioljidangkaaGreatEnt
namespace Go.Proofs.YtheioljidangkaaGreat
open Go Go.RowKit Go.Sx
set_option linter.unusedSimpArgs false
set_option linter.unusedVariables false

theorem bytes_part {cs : Array Value} {o n : Nat} {x : Vector UInt8 n} (h : ∀ j, j < n → cs[o + j]? = (idC x)[j]?) : BytesAt cs o n x.toList := ⟨by simp, fun j y hj => by
  have hj' : j < n := by have := (List.getElem?_eq_some_iff.1 hj).1; simpa using this
  rw [h j hj', idC_at x j hj']
  have := (List.getElem?_eq_some_iff.1 hj).2
  simp at this
  rw [← this]⟩
theorem skip (A B : Array Value) (m k j : Nat) (h : m = A.size + k) : (A ++ B)[m + j]? = B[k + j]? := by
  rw [Array.getElem?_append_right (by omega)]
  congr 1; omega
theorem subV (A R : Array Value) (j : Nat) (hj : j < A.size) : (A ++ R)[0 + j]? = A[j]? := by rw [Nat.zero_add, Array.getElem?_append_left hj]
theorem z0 {cs : Array Value} {n : Nat} {v : Value} (h : cs[n + 0]? = some v) : cs[n]? = some v := h
theorem subI (v : Value) (R : Array Value) : (#[v] ++ R)[0 + 0]? = some v := by rw [Array.getElem?_append_left (by simp)]; rfl
instance (x : Vector UInt8 16) : BytesAt (idC x) 0 16 x.toList := bytes_part (fun j hj => by rw [Nat.zero_add])
instance (x y : Vector UInt8 16) : WritesAt Tryz.prog 28 (idC x) 0 (.agg (idC y)) (idC y) := WritesAt.whole Tryz.sizeOf28 (idC_size _) (idC_size _) (idC_one _)
instance (x : Vector UInt8 16) : ReadsAt Tryz.prog 28 (idC x) 0 (.agg (idC x)) := ReadsAt.agg (k := 16) (idC_size _) (fun j _ => by rw [Nat.zero_add])
instance : ZeroOf Tryz.prog 28 (idC (zv 16)) := ⟨_, Tryz.zeroValue28, by rw [idC0]; rfl⟩
instance : Builds Tryz.prog 28 [] (idC (zv 16)) := Builds.array (k := 1) inferInstance Tryz.underlying28 Tryz.sizeOf5 [] rfl (by simp) rfl
instance (x y : Vector UInt8 16) : WritesAt Tryz.prog 59 (idC x) 0 (.agg (idC y)) (idC y) := WritesAt.whole Tryz.sizeOf59 (idC_size _) (idC_size _) (idC_one _)
instance (x : Vector UInt8 16) : ReadsAt Tryz.prog 59 (idC x) 0 (.agg (idC x)) := ReadsAt.agg (k := 16) (idC_size _) (fun j _ => by rw [Nat.zero_add])
instance : ZeroOf Tryz.prog 59 (idC (zv 16)) := ⟨_, Tryz.zeroValue59, by rw [idC0]; rfl⟩
instance : Builds Tryz.prog 59 [] (idC (zv 16)) := Builds.array (k := 1) inferInstance Tryz.underlying59 Tryz.sizeOf5 [] rfl (by simp) rfl
instance (x y : Vector UInt8 16) : WritesAt Tryz.prog 137 (idC x) 0 (.agg (idC y)) (idC y) := WritesAt.whole Tryz.sizeOf137 (idC_size _) (idC_size _) (idC_one _)
instance (x : Vector UInt8 16) : ReadsAt Tryz.prog 137 (idC x) 0 (.agg (idC x)) := ReadsAt.agg (k := 16) (idC_size _) (fun j _ => by rw [Nat.zero_add])
instance : ZeroOf Tryz.prog 137 (idC (zv 16)) := ⟨_, Tryz.zeroValue137, by rw [idC0]; rfl⟩
instance : Builds Tryz.prog 137 [] (idC (zv 16)) := Builds.array (k := 1) inferInstance Tryz.underlying137 Tryz.sizeOf5 [] rfl (by simp) rfl
instance (x : Vector UInt8 32) : BytesAt (idC x) 0 32 x.toList := bytes_part (fun j hj => by rw [Nat.zero_add])
instance (x y : Vector UInt8 32) : WritesAt Tryz.prog 36 (idC x) 0 (.agg (idC y)) (idC y) := WritesAt.whole Tryz.sizeOf36 (idC_size _) (idC_size _) (idC_one _)
instance (x : Vector UInt8 32) : ReadsAt Tryz.prog 36 (idC x) 0 (.agg (idC x)) := ReadsAt.agg (k := 32) (idC_size _) (fun j _ => by rw [Nat.zero_add])
instance : ZeroOf Tryz.prog 36 (idC (zv 32)) := ⟨_, Tryz.zeroValue36, by rw [idC0]; rfl⟩
instance : Builds Tryz.prog 36 [] (idC (zv 32)) := Builds.array (k := 1) inferInstance Tryz.underlying36 Tryz.sizeOf5 [] rfl (by simp) rfl
instance (x y : Vector UInt8 32) : WritesAt Tryz.prog 37 (idC x) 0 (.agg (idC y)) (idC y) := WritesAt.whole Tryz.sizeOf37 (idC_size _) (idC_size _) (idC_one _)
instance (x : Vector UInt8 32) : ReadsAt Tryz.prog 37 (idC x) 0 (.agg (idC x)) := ReadsAt.agg (k := 32) (idC_size _) (fun j _ => by rw [Nat.zero_add])
instance : ZeroOf Tryz.prog 37 (idC (zv 32)) := ⟨_, Tryz.zeroValue37, by rw [idC0]; rfl⟩
instance : Builds Tryz.prog 37 [] (idC (zv 32)) := Builds.array (k := 1) inferInstance Tryz.underlying37 Tryz.sizeOf5 [] rfl (by simp) rfl
instance (x y : Vector UInt8 32) : WritesAt Tryz.prog 161 (idC x) 0 (.agg (idC y)) (idC y) := WritesAt.whole Tryz.sizeOf161 (idC_size _) (idC_size _) (idC_one _)
instance (x : Vector UInt8 32) : ReadsAt Tryz.prog 161 (idC x) 0 (.agg (idC x)) := ReadsAt.agg (k := 32) (idC_size _) (fun j _ => by rw [Nat.zero_add])
instance : ZeroOf Tryz.prog 161 (idC (zv 32)) := ⟨_, Tryz.zeroValue161, by rw [idC0]; rfl⟩
instance : Builds Tryz.prog 161 [] (idC (zv 32)) := Builds.array (k := 1) inferInstance Tryz.underlying161 Tryz.sizeOf5 [] rfl (by simp) rfl
def pubC (p : Pub) : Array Value := (#[I (p.h)] ++ (idC (p.root) ++ #[]))
theorem pubC_size (p : Pub) : (pubC p).size = 17 := by simp [pubC, idC_size]
theorem pubC_one (p : Pub) : ∀ u ∈ (pubC p).toList, u.oneCell' = true := by
  intro u hu
  simp only [pubC, Array.toList_append, List.mem_append] at hu
  rcases hu with hu | hu | hu
  · simp at hu; subst hu; rfl
  · exact idC_one _ u hu
  · simp at hu
abbrev pubK (p : Pub) : Value := .agg (pubC p)
abbrev pubL (p : Pub) : List Value := (pubC p).toList
theorem pubL_len (p : Pub) : (pubL p).length = 17 := by simp [pubC_size]
theorem pubL_one (p : Pub) : ∀ u ∈ pubL p, u.oneCell' = true := pubC_one p
class AtP (cur : Array Value) (o : Nat) (p : outParam Pub) : Prop where
  go : ∀ i, i < 17 → cur[o + i]? = (pubC p)[i]?
theorem pub_a0 (p : Pub) : (pubC p)[0]? = some (I (p.h)) := by
  refine z0 ?_
  simp only [pubC]
  rw [subI]
instance (p : Pub) : GetAt (pubC p) 0 (I (p.h)) := ⟨pub_a0 p⟩
instance (cur : Array Value) (o : Nat) (p : Pub) [h : AtP cur o p] : GetAt cur o (I (p.h)) := ⟨by rw [show o = o + 0 from rfl, h.go 0 (by omega)]; exact pub_a0 p⟩
theorem pub_a1 (p : Pub) (j : Nat) (hj : j < 16) : (pubC p)[1 + j]? = (idC (p.root))[j]? := by
  simp only [pubC]
  rw [skip _ _ 1 0 _ (by simp [idC_size]), subV _ _ _ (by simpa [idC_size] using hj)]
instance (p : Pub) : ReadsAt Tryz.prog 28 (pubC p) 1 (.agg (idC (p.root))) := ReadsAt.agg (k := 16) (idC_size _) (fun j hj => pub_a1 p j hj)
instance (cur : Array Value) (o : Nat) (p : Pub) [h : AtP cur o p] : ReadsAt Tryz.prog 28 cur (o + 1) (.agg (idC (p.root))) := ReadsAt.agg (k := 16) (idC_size _) (fun j hj => by rw [Nat.add_assoc, h.go (1 + j) (by omega)]; exact pub_a1 p j hj)
instance (p : Pub) : ReadsAt Tryz.prog 59 (pubC p) 1 (.agg (idC (p.root))) := ReadsAt.agg (k := 16) (idC_size _) (fun j hj => pub_a1 p j hj)
instance (cur : Array Value) (o : Nat) (p : Pub) [h : AtP cur o p] : ReadsAt Tryz.prog 59 cur (o + 1) (.agg (idC (p.root))) := ReadsAt.agg (k := 16) (idC_size _) (fun j hj => by rw [Nat.add_assoc, h.go (1 + j) (by omega)]; exact pub_a1 p j hj)
instance (p : Pub) : ReadsAt Tryz.prog 137 (pubC p) 1 (.agg (idC (p.root))) := ReadsAt.agg (k := 16) (idC_size _) (fun j hj => pub_a1 p j hj)
instance (cur : Array Value) (o : Nat) (p : Pub) [h : AtP cur o p] : ReadsAt Tryz.prog 137 cur (o + 1) (.agg (idC (p.root))) := ReadsAt.agg (k := 16) (idC_size _) (fun j hj => by rw [Nat.add_assoc, h.go (1 + j) (by omega)]; exact pub_a1 p j hj)
instance (p : Pub) : BytesAt (pubC p) 1 16 (p.root).toList := bytes_part (fun j hj => pub_a1 p j hj)
instance (cur : Array Value) (o : Nat) (p : Pub) [h : AtP cur o p] : BytesAt cur (o + 1) 16 (p.root).toList := bytes_part (fun j hj => by rw [Nat.add_assoc, h.go (1 + j) (by omega)]; exact pub_a1 p j hj)
instance (p : Pub) : ReadsAt Tryz.prog 31 (pubC p) 0 (.agg (pubC p)) := ReadsAt.agg (k := 17) (pubC_size p) (fun j _ => by rw [Nat.zero_add])
instance (cur : Array Value) (o : Nat) (p : Pub) [h : AtP cur o p] : ReadsAt Tryz.prog 31 cur o (.agg (pubC p)) := ReadsAt.agg (k := 17) (pubC_size p) (fun j hj => h.go j hj)
instance (x y : Pub) : WritesAt Tryz.prog 31 (pubC x) 0 (.agg (pubC y)) (pubC y) := WritesAt.whole Tryz.sizeOf31 (pubC_size _) (pubC_size _) (pubC_one _)
instance (p : Pub) : ReadsAt Tryz.prog 35 (pubC p) 0 (.agg (pubC p)) := ReadsAt.agg (k := 17) (pubC_size p) (fun j _ => by rw [Nat.zero_add])
instance (cur : Array Value) (o : Nat) (p : Pub) [h : AtP cur o p] : ReadsAt Tryz.prog 35 cur o (.agg (pubC p)) := ReadsAt.agg (k := 17) (pubC_size p) (fun j hj => h.go j hj)
instance (x y : Pub) : WritesAt Tryz.prog 35 (pubC x) 0 (.agg (pubC y)) (pubC y) := WritesAt.whole Tryz.sizeOf35 (pubC_size _) (pubC_size _) (pubC_one _)
theorem pub_s0 (p : Pub) (z : Int) : splice (pubC p) 0 (#[I z]) = pubC { p with h := z } := by
  simp only [pubC]
  rw [sL _ _ _ (by simp [idC_size])]
instance (p : Pub) (z : Int) : SetAt (pubC p) 0 (I z) (pubC { p with h := z }) := ⟨by rw [pubC_size]; omega, (pub_s0 p z).symm⟩
theorem sPub (z : Pub) (h : Int) (r : Au) (R : Array Value) : splice (#[I h] ++ (idC r ++ R)) 0 (pubC z) = #[I z.h] ++ (idC z.root ++ R) := by
  have e : #[I h] ++ (idC r ++ R) = (#[I h] ++ idC r) ++ R := by rw [Array.append_assoc]
  rw [e, sL _ _ _ (by simp [pubC_size, idC_size])]
  simp [pubC, Array.append_assoc]
theorem sub_pub {p : Pub} (R : Array Value) (j : Nat) (hj : j < 17) : (#[I p.h] ++ (idC p.root ++ R))[0 + j]? = (pubC p)[j]? := by
  have e : #[I p.h] ++ (idC p.root ++ R) = pubC p ++ R := by simp [pubC, Array.append_assoc]
  rw [e, subV _ _ _ (by simpa [pubC_size] using hj)]
def plC (x : Pl) : Array Value := (idC (x.au) ++ (#[I (x.n)] ++ (#[I (x.p.h)] ++ (idC (x.p.root) ++ #[]))))
theorem plC_size (x : Pl) : (plC x).size = 34 := by simp [plC, idC_size]
theorem plC_one (x : Pl) : ∀ u ∈ (plC x).toList, u.oneCell' = true := by
  intro u hu
  simp only [plC, Array.toList_append, List.mem_append] at hu
  rcases hu with hu | hu | hu | hu | hu
  · exact idC_one _ u hu
  · simp at hu; subst hu; rfl
  · simp at hu; subst hu; rfl
  · exact idC_one _ u hu
  · simp at hu
abbrev plK (x : Pl) : Value := .agg (plC x)
abbrev plL (x : Pl) : List Value := (plC x).toList
theorem plL_len (x : Pl) : (plL x).length = 34 := by simp [plC_size]
theorem plL_one (x : Pl) : ∀ u ∈ plL x, u.oneCell' = true := plC_one x
theorem pl_a0 (x : Pl) (j : Nat) (hj : j < 16) : (plC x)[0 + j]? = (idC (x.au))[j]? := by
  simp only [plC]
  rw [subV _ _ _ (by simpa [idC_size] using hj)]
instance (x : Pl) : ReadsAt Tryz.prog 28 (plC x) 0 (.agg (idC (x.au))) := ReadsAt.agg (k := 16) (idC_size _) (fun j hj => pl_a0 x j hj)
instance (x : Pl) : ReadsAt Tryz.prog 59 (plC x) 0 (.agg (idC (x.au))) := ReadsAt.agg (k := 16) (idC_size _) (fun j hj => pl_a0 x j hj)
instance (x : Pl) : ReadsAt Tryz.prog 137 (plC x) 0 (.agg (idC (x.au))) := ReadsAt.agg (k := 16) (idC_size _) (fun j hj => pl_a0 x j hj)
instance (x : Pl) : BytesAt (plC x) 0 16 (x.au).toList := bytes_part (fun j hj => pl_a0 x j hj)
theorem pl_a16 (x : Pl) : (plC x)[16]? = some (I (x.n)) := by
  refine z0 ?_
  simp only [plC]
  rw [skip _ _ 16 0 _ (by simp [idC_size]), subI]
instance (x : Pl) : GetAt (plC x) 16 (I (x.n)) := ⟨pl_a16 x⟩
theorem pl_a17 (x : Pl) : (plC x)[17]? = some (I (x.p.h)) := by
  refine z0 ?_
  simp only [plC]
  rw [skip _ _ 17 1 _ (by simp [idC_size]), skip _ _ 1 0 _ (by simp [idC_size]), subI]
instance (x : Pl) : GetAt (plC x) 17 (I (x.p.h)) := ⟨pl_a17 x⟩
theorem pl_a18 (x : Pl) (j : Nat) (hj : j < 16) : (plC x)[18 + j]? = (idC (x.p.root))[j]? := by
  simp only [plC]
  rw [skip _ _ 18 2 _ (by simp [idC_size]), skip _ _ 2 1 _ (by simp [idC_size]), skip _ _ 1 0 _ (by simp [idC_size]), subV _ _ _ (by simpa [idC_size] using hj)]
instance (x : Pl) : ReadsAt Tryz.prog 28 (plC x) 18 (.agg (idC (x.p.root))) := ReadsAt.agg (k := 16) (idC_size _) (fun j hj => pl_a18 x j hj)
instance (x : Pl) : ReadsAt Tryz.prog 59 (plC x) 18 (.agg (idC (x.p.root))) := ReadsAt.agg (k := 16) (idC_size _) (fun j hj => pl_a18 x j hj)
instance (x : Pl) : ReadsAt Tryz.prog 137 (plC x) 18 (.agg (idC (x.p.root))) := ReadsAt.agg (k := 16) (idC_size _) (fun j hj => pl_a18 x j hj)
instance (x : Pl) : BytesAt (plC x) 18 16 (x.p.root).toList := bytes_part (fun j hj => pl_a18 x j hj)
theorem pl_pub17 (x : Pl) (j : Nat) (hj : j < 17) : (plC x)[17 + j]? = (pubC (x.p))[j]? := by
  simp only [plC]
  rw [skip _ _ 17 1 _ (by simp [idC_size]), skip _ _ 1 0 _ (by simp [idC_size]), sub_pub _ _ hj]
instance (x : Pl) : ReadsAt Tryz.prog 31 (plC x) 17 (.agg (pubC (x.p))) := ReadsAt.agg (k := 17) (pubC_size _) (fun j hj => pl_pub17 x j hj)
instance (x : Pl) : ReadsAt Tryz.prog 35 (plC x) 17 (.agg (pubC (x.p))) := ReadsAt.agg (k := 17) (pubC_size _) (fun j hj => pl_pub17 x j hj)
instance (x : Pl) : ReadsAt Tryz.prog 96 (plC x) 0 (.agg (plC x)) := ReadsAt.agg (k := 34) (plC_size x) (fun j _ => by rw [Nat.zero_add])
instance (x y : Pl) : WritesAt Tryz.prog 96 (plC x) 0 (.agg (plC y)) (plC y) := WritesAt.whole Tryz.sizeOf96 (plC_size _) (plC_size _) (plC_one _)
theorem pl_s0 (x : Pl) (z : Vector UInt8 16) : splice (plC x) 0 (idC z) = plC { x with au := z } := by
  simp only [plC]
  rw [sL _ _ _ (by simp [idC_size])]
instance (x : Pl) (z : Vector UInt8 16) : WritesAt Tryz.prog 28 (plC x) 0 (.agg (idC z)) (plC { x with au := z }) := WritesAt.of Tryz.sizeOf28 (idC_size _) (idC_one _) (by rw [plC_size]; omega) (by
  have h := (pl_s0 x z).symm
  rw [h, splice, idC_size]; rfl)
instance (x : Pl) (z : Vector UInt8 16) : WritesAt Tryz.prog 59 (plC x) 0 (.agg (idC z)) (plC { x with au := z }) := WritesAt.of Tryz.sizeOf59 (idC_size _) (idC_one _) (by rw [plC_size]; omega) (by
  have h := (pl_s0 x z).symm
  rw [h, splice, idC_size]; rfl)
instance (x : Pl) (z : Vector UInt8 16) : WritesAt Tryz.prog 137 (plC x) 0 (.agg (idC z)) (plC { x with au := z }) := WritesAt.of Tryz.sizeOf137 (idC_size _) (idC_one _) (by rw [plC_size]; omega) (by
  have h := (pl_s0 x z).symm
  rw [h, splice, idC_size]; rfl)
theorem pl_s16 (x : Pl) (z : Int) : splice (plC x) 16 (#[I z]) = plC { x with n := z } := by
  simp only [plC]
  rw [sR _ _ _ 0 16 (by simp [idC_size]), sL _ _ _ (by simp [idC_size])]
instance (x : Pl) (z : Int) : SetAt (plC x) 16 (I z) (plC { x with n := z }) := ⟨by rw [plC_size]; omega, (pl_s16 x z).symm⟩
theorem pl_sp17 (x : Pl) (z : Pub) : splice (plC x) 17 (pubC z) = plC { x with p := z } := by
  simp only [plC]
  rw [sR _ _ _ 1 17 (by simp [idC_size]), sR _ _ _ 0 1 (by simp [idC_size]), sPub]
theorem sub_pl {a : Au} {n : Int} {p : Pub} (R : Array Value) (j : Nat) (hj : j < 34) : (idC a ++ (#[I n] ++ (#[I p.h] ++ (idC p.root ++ R))))[0 + j]? = (plC ⟨a, n, p⟩)[j]? := by
  have e : idC a ++ (#[I n] ++ (#[I p.h] ++ (idC p.root ++ R))) = plC ⟨a, n, p⟩ ++ R := by simp [plC, Array.append_assoc]
  rw [e, subV _ _ _ (by simpa [plC_size] using hj)]
def rkC (r : RK) : Array Value := (idC (r.id) ++ (idC (r.au) ++ (#[I (r.n)] ++ (#[I (r.p.h)] ++ (idC (r.p.root) ++ (#[I (r.leaf)] ++ (#[I (r.q.h)] ++ (idC (r.q.root) ++ #[]))))))))
theorem rkC_size (r : RK) : (rkC r).size = 84 := by simp [rkC, idC_size]
theorem rkC_one (r : RK) : ∀ u ∈ (rkC r).toList, u.oneCell' = true := by
  intro u hu
  simp only [rkC, Array.toList_append, List.mem_append] at hu
  rcases hu with hu | hu | hu | hu | hu | hu | hu | hu | hu
  · exact idC_one _ u hu
  · exact idC_one _ u hu
  · simp at hu; subst hu; rfl
  · simp at hu; subst hu; rfl
  · exact idC_one _ u hu
  · simp at hu; subst hu; rfl
  · simp at hu; subst hu; rfl
  · exact idC_one _ u hu
  · simp at hu
abbrev rkK (r : RK) : Value := .agg (rkC r)
abbrev rkL (r : RK) : List Value := (rkC r).toList
theorem rkL_len (r : RK) : (rkL r).length = 84 := by simp [rkC_size]
theorem rkL_one (r : RK) : ∀ u ∈ rkL r, u.oneCell' = true := rkC_one r
class AtR (cur : Array Value) (o : Nat) (r : outParam RK) : Prop where
  go : ∀ i, i < 84 → cur[o + i]? = (rkC r)[i]?
theorem rk_a0 (r : RK) (j : Nat) (hj : j < 32) : (rkC r)[0 + j]? = (idC (r.id))[j]? := by
  simp only [rkC]
  rw [subV _ _ _ (by simpa [idC_size] using hj)]
instance (r : RK) : ReadsAt Tryz.prog 36 (rkC r) 0 (.agg (idC (r.id))) := ReadsAt.agg (k := 32) (idC_size _) (fun j hj => rk_a0 r j hj)
instance (cur : Array Value) (o : Nat) (r : RK) [h : AtR cur o r] : ReadsAt Tryz.prog 36 cur o (.agg (idC (r.id))) := ReadsAt.agg (k := 32) (idC_size _) (fun j hj => by rw [show o + j = o + (0 + j) by omega, h.go (0 + j) (by omega)]; exact rk_a0 r j hj)
instance (r : RK) : ReadsAt Tryz.prog 37 (rkC r) 0 (.agg (idC (r.id))) := ReadsAt.agg (k := 32) (idC_size _) (fun j hj => rk_a0 r j hj)
instance (cur : Array Value) (o : Nat) (r : RK) [h : AtR cur o r] : ReadsAt Tryz.prog 37 cur o (.agg (idC (r.id))) := ReadsAt.agg (k := 32) (idC_size _) (fun j hj => by rw [show o + j = o + (0 + j) by omega, h.go (0 + j) (by omega)]; exact rk_a0 r j hj)
instance (r : RK) : ReadsAt Tryz.prog 161 (rkC r) 0 (.agg (idC (r.id))) := ReadsAt.agg (k := 32) (idC_size _) (fun j hj => rk_a0 r j hj)
instance (cur : Array Value) (o : Nat) (r : RK) [h : AtR cur o r] : ReadsAt Tryz.prog 161 cur o (.agg (idC (r.id))) := ReadsAt.agg (k := 32) (idC_size _) (fun j hj => by rw [show o + j = o + (0 + j) by omega, h.go (0 + j) (by omega)]; exact rk_a0 r j hj)
instance (r : RK) : BytesAt (rkC r) 0 32 (r.id).toList := bytes_part (fun j hj => rk_a0 r j hj)
instance (cur : Array Value) (o : Nat) (r : RK) [h : AtR cur o r] : BytesAt cur o 32 (r.id).toList := bytes_part (fun j hj => by rw [show o + j = o + (0 + j) by omega, h.go (0 + j) (by omega)]; exact rk_a0 r j hj)
theorem rk_a32 (r : RK) (j : Nat) (hj : j < 16) : (rkC r)[32 + j]? = (idC (r.au))[j]? := by
  simp only [rkC]
  rw [skip _ _ 32 0 _ (by simp [idC_size]), subV _ _ _ (by simpa [idC_size] using hj)]
instance (r : RK) : ReadsAt Tryz.prog 28 (rkC r) 32 (.agg (idC (r.au))) := ReadsAt.agg (k := 16) (idC_size _) (fun j hj => rk_a32 r j hj)
instance (cur : Array Value) (o : Nat) (r : RK) [h : AtR cur o r] : ReadsAt Tryz.prog 28 cur (o + 32) (.agg (idC (r.au))) := ReadsAt.agg (k := 16) (idC_size _) (fun j hj => by rw [Nat.add_assoc, h.go (32 + j) (by omega)]; exact rk_a32 r j hj)
instance (r : RK) : ReadsAt Tryz.prog 59 (rkC r) 32 (.agg (idC (r.au))) := ReadsAt.agg (k := 16) (idC_size _) (fun j hj => rk_a32 r j hj)
instance (cur : Array Value) (o : Nat) (r : RK) [h : AtR cur o r] : ReadsAt Tryz.prog 59 cur (o + 32) (.agg (idC (r.au))) := ReadsAt.agg (k := 16) (idC_size _) (fun j hj => by rw [Nat.add_assoc, h.go (32 + j) (by omega)]; exact rk_a32 r j hj)
instance (r : RK) : ReadsAt Tryz.prog 137 (rkC r) 32 (.agg (idC (r.au))) := ReadsAt.agg (k := 16) (idC_size _) (fun j hj => rk_a32 r j hj)
instance (cur : Array Value) (o : Nat) (r : RK) [h : AtR cur o r] : ReadsAt Tryz.prog 137 cur (o + 32) (.agg (idC (r.au))) := ReadsAt.agg (k := 16) (idC_size _) (fun j hj => by rw [Nat.add_assoc, h.go (32 + j) (by omega)]; exact rk_a32 r j hj)
instance (r : RK) : BytesAt (rkC r) 32 16 (r.au).toList := bytes_part (fun j hj => rk_a32 r j hj)
instance (cur : Array Value) (o : Nat) (r : RK) [h : AtR cur o r] : BytesAt cur (o + 32) 16 (r.au).toList := bytes_part (fun j hj => by rw [Nat.add_assoc, h.go (32 + j) (by omega)]; exact rk_a32 r j hj)
theorem rk_a48 (r : RK) : (rkC r)[48]? = some (I (r.n)) := by
  refine z0 ?_
  simp only [rkC]
  rw [skip _ _ 48 16 _ (by simp [idC_size]), skip _ _ 16 0 _ (by simp [idC_size]), subI]
instance (r : RK) : GetAt (rkC r) 48 (I (r.n)) := ⟨rk_a48 r⟩
instance (cur : Array Value) (o : Nat) (r : RK) [h : AtR cur o r] : GetAt cur (o + 48) (I (r.n)) := ⟨by rw [show (o + 48) = o + 48 from rfl, h.go 48 (by omega)]; exact rk_a48 r⟩
theorem rk_a49 (r : RK) : (rkC r)[49]? = some (I (r.p.h)) := by
  refine z0 ?_
  simp only [rkC]
  rw [skip _ _ 49 17 _ (by simp [idC_size]), skip _ _ 17 1 _ (by simp [idC_size]), skip _ _ 1 0 _ (by simp [idC_size]), subI]
instance (r : RK) : GetAt (rkC r) 49 (I (r.p.h)) := ⟨rk_a49 r⟩
instance (cur : Array Value) (o : Nat) (r : RK) [h : AtR cur o r] : GetAt cur (o + 49) (I (r.p.h)) := ⟨by rw [show (o + 49) = o + 49 from rfl, h.go 49 (by omega)]; exact rk_a49 r⟩
theorem rk_a50 (r : RK) (j : Nat) (hj : j < 16) : (rkC r)[50 + j]? = (idC (r.p.root))[j]? := by
  simp only [rkC]
  rw [skip _ _ 50 18 _ (by simp [idC_size]), skip _ _ 18 2 _ (by simp [idC_size]), skip _ _ 2 1 _ (by simp [idC_size]), skip _ _ 1 0 _ (by simp [idC_size]), subV _ _ _ (by simpa [idC_size] using hj)]
instance (r : RK) : ReadsAt Tryz.prog 28 (rkC r) 50 (.agg (idC (r.p.root))) := ReadsAt.agg (k := 16) (idC_size _) (fun j hj => rk_a50 r j hj)
instance (cur : Array Value) (o : Nat) (r : RK) [h : AtR cur o r] : ReadsAt Tryz.prog 28 cur (o + 50) (.agg (idC (r.p.root))) := ReadsAt.agg (k := 16) (idC_size _) (fun j hj => by rw [Nat.add_assoc, h.go (50 + j) (by omega)]; exact rk_a50 r j hj)
instance (r : RK) : ReadsAt Tryz.prog 59 (rkC r) 50 (.agg (idC (r.p.root))) := ReadsAt.agg (k := 16) (idC_size _) (fun j hj => rk_a50 r j hj)
instance (cur : Array Value) (o : Nat) (r : RK) [h : AtR cur o r] : ReadsAt Tryz.prog 59 cur (o + 50) (.agg (idC (r.p.root))) := ReadsAt.agg (k := 16) (idC_size _) (fun j hj => by rw [Nat.add_assoc, h.go (50 + j) (by omega)]; exact rk_a50 r j hj)
instance (r : RK) : ReadsAt Tryz.prog 137 (rkC r) 50 (.agg (idC (r.p.root))) := ReadsAt.agg (k := 16) (idC_size _) (fun j hj => rk_a50 r j hj)
instance (cur : Array Value) (o : Nat) (r : RK) [h : AtR cur o r] : ReadsAt Tryz.prog 137 cur (o + 50) (.agg (idC (r.p.root))) := ReadsAt.agg (k := 16) (idC_size _) (fun j hj => by rw [Nat.add_assoc, h.go (50 + j) (by omega)]; exact rk_a50 r j hj)
instance (r : RK) : BytesAt (rkC r) 50 16 (r.p.root).toList := bytes_part (fun j hj => rk_a50 r j hj)
instance (cur : Array Value) (o : Nat) (r : RK) [h : AtR cur o r] : BytesAt cur (o + 50) 16 (r.p.root).toList := bytes_part (fun j hj => by rw [Nat.add_assoc, h.go (50 + j) (by omega)]; exact rk_a50 r j hj)
theorem rk_a66 (r : RK) : (rkC r)[66]? = some (I (r.leaf)) := by
  refine z0 ?_
  simp only [rkC]
  rw [skip _ _ 66 34 _ (by simp [idC_size]), skip _ _ 34 18 _ (by simp [idC_size]), skip _ _ 18 17 _ (by simp [idC_size]), skip _ _ 17 16 _ (by simp [idC_size]), skip _ _ 16 0 _ (by simp [idC_size]), subI]
instance (r : RK) : GetAt (rkC r) 66 (I (r.leaf)) := ⟨rk_a66 r⟩
instance (cur : Array Value) (o : Nat) (r : RK) [h : AtR cur o r] : GetAt cur (o + 66) (I (r.leaf)) := ⟨by rw [show (o + 66) = o + 66 from rfl, h.go 66 (by omega)]; exact rk_a66 r⟩
theorem rk_a67 (r : RK) : (rkC r)[67]? = some (I (r.q.h)) := by
  refine z0 ?_
  simp only [rkC]
  rw [skip _ _ 67 35 _ (by simp [idC_size]), skip _ _ 35 19 _ (by simp [idC_size]), skip _ _ 19 18 _ (by simp [idC_size]), skip _ _ 18 17 _ (by simp [idC_size]), skip _ _ 17 1 _ (by simp [idC_size]), skip _ _ 1 0 _ (by simp [idC_size]), subI]
instance (r : RK) : GetAt (rkC r) 67 (I (r.q.h)) := ⟨rk_a67 r⟩
instance (cur : Array Value) (o : Nat) (r : RK) [h : AtR cur o r] : GetAt cur (o + 67) (I (r.q.h)) := ⟨by rw [show (o + 67) = o + 67 from rfl, h.go 67 (by omega)]; exact rk_a67 r⟩
theorem rk_a68 (r : RK) (j : Nat) (hj : j < 16) : (rkC r)[68 + j]? = (idC (r.q.root))[j]? := by
  simp only [rkC]
  rw [skip _ _ 68 36 _ (by simp [idC_size]), skip _ _ 36 20 _ (by simp [idC_size]), skip _ _ 20 19 _ (by simp [idC_size]), skip _ _ 19 18 _ (by simp [idC_size]), skip _ _ 18 2 _ (by simp [idC_size]), skip _ _ 2 1 _ (by simp [idC_size]), skip _ _ 1 0 _ (by simp [idC_size]), subV _ _ _ (by simpa [idC_size] using hj)]
instance (r : RK) : ReadsAt Tryz.prog 28 (rkC r) 68 (.agg (idC (r.q.root))) := ReadsAt.agg (k := 16) (idC_size _) (fun j hj => rk_a68 r j hj)
instance (cur : Array Value) (o : Nat) (r : RK) [h : AtR cur o r] : ReadsAt Tryz.prog 28 cur (o + 68) (.agg (idC (r.q.root))) := ReadsAt.agg (k := 16) (idC_size _) (fun j hj => by rw [Nat.add_assoc, h.go (68 + j) (by omega)]; exact rk_a68 r j hj)
instance (r : RK) : ReadsAt Tryz.prog 59 (rkC r) 68 (.agg (idC (r.q.root))) := ReadsAt.agg (k := 16) (idC_size _) (fun j hj => rk_a68 r j hj)
instance (cur : Array Value) (o : Nat) (r : RK) [h : AtR cur o r] : ReadsAt Tryz.prog 59 cur (o + 68) (.agg (idC (r.q.root))) := ReadsAt.agg (k := 16) (idC_size _) (fun j hj => by rw [Nat.add_assoc, h.go (68 + j) (by omega)]; exact rk_a68 r j hj)
instance (r : RK) : ReadsAt Tryz.prog 137 (rkC r) 68 (.agg (idC (r.q.root))) := ReadsAt.agg (k := 16) (idC_size _) (fun j hj => rk_a68 r j hj)
instance (cur : Array Value) (o : Nat) (r : RK) [h : AtR cur o r] : ReadsAt Tryz.prog 137 cur (o + 68) (.agg (idC (r.q.root))) := ReadsAt.agg (k := 16) (idC_size _) (fun j hj => by rw [Nat.add_assoc, h.go (68 + j) (by omega)]; exact rk_a68 r j hj)
instance (r : RK) : BytesAt (rkC r) 68 16 (r.q.root).toList := bytes_part (fun j hj => rk_a68 r j hj)
instance (cur : Array Value) (o : Nat) (r : RK) [h : AtR cur o r] : BytesAt cur (o + 68) 16 (r.q.root).toList := bytes_part (fun j hj => by rw [Nat.add_assoc, h.go (68 + j) (by omega)]; exact rk_a68 r j hj)
theorem rk_pl32 (r : RK) (j : Nat) (hj : j < 34) : (rkC r)[32 + j]? = (plC (⟨r.au, r.n, r.p⟩))[j]? := by
  simp only [rkC]
  rw [skip _ _ 32 0 _ (by simp [idC_size]), sub_pl _ _ hj]
instance (r : RK) : ReadsAt Tryz.prog 96 (rkC r) 32 (.agg (plC (⟨r.au, r.n, r.p⟩))) := ReadsAt.agg (k := 34) (plC_size _) (fun j hj => rk_pl32 r j hj)
instance (cur : Array Value) (o : Nat) (r : RK) [h : AtR cur o r] : ReadsAt Tryz.prog 96 cur (o + 32) (.agg (plC (⟨r.au, r.n, r.p⟩))) := ReadsAt.agg (k := 34) (plC_size _) (fun j hj => by rw [Nat.add_assoc, h.go (32 + j) (by omega)]; exact rk_pl32 r j hj)
theorem rk_pub49 (r : RK) (j : Nat) (hj : j < 17) : (rkC r)[49 + j]? = (pubC (r.p))[j]? := by
  simp only [rkC]
  rw [skip _ _ 49 17 _ (by simp [idC_size]), skip _ _ 17 1 _ (by simp [idC_size]), skip _ _ 1 0 _ (by simp [idC_size]), sub_pub _ _ hj]
instance (r : RK) : ReadsAt Tryz.prog 31 (rkC r) 49 (.agg (pubC (r.p))) := ReadsAt.agg (k := 17) (pubC_size _) (fun j hj => rk_pub49 r j hj)
instance (cur : Array Value) (o : Nat) (r : RK) [h : AtR cur o r] : ReadsAt Tryz.prog 31 cur (o + 49) (.agg (pubC (r.p))) := ReadsAt.agg (k := 17) (pubC_size _) (fun j hj => by rw [Nat.add_assoc, h.go (49 + j) (by omega)]; exact rk_pub49 r j hj)
instance (r : RK) : ReadsAt Tryz.prog 35 (rkC r) 49 (.agg (pubC (r.p))) := ReadsAt.agg (k := 17) (pubC_size _) (fun j hj => rk_pub49 r j hj)
instance (cur : Array Value) (o : Nat) (r : RK) [h : AtR cur o r] : ReadsAt Tryz.prog 35 cur (o + 49) (.agg (pubC (r.p))) := ReadsAt.agg (k := 17) (pubC_size _) (fun j hj => by rw [Nat.add_assoc, h.go (49 + j) (by omega)]; exact rk_pub49 r j hj)
theorem rk_pub67 (r : RK) (j : Nat) (hj : j < 17) : (rkC r)[67 + j]? = (pubC (r.q))[j]? := by
  simp only [rkC]
  rw [skip _ _ 67 35 _ (by simp [idC_size]), skip _ _ 35 19 _ (by simp [idC_size]), skip _ _ 19 18 _ (by simp [idC_size]), skip _ _ 18 17 _ (by simp [idC_size]), skip _ _ 17 1 _ (by simp [idC_size]), skip _ _ 1 0 _ (by simp [idC_size]), sub_pub _ _ hj]
instance (r : RK) : ReadsAt Tryz.prog 31 (rkC r) 67 (.agg (pubC (r.q))) := ReadsAt.agg (k := 17) (pubC_size _) (fun j hj => rk_pub67 r j hj)
instance (cur : Array Value) (o : Nat) (r : RK) [h : AtR cur o r] : ReadsAt Tryz.prog 31 cur (o + 67) (.agg (pubC (r.q))) := ReadsAt.agg (k := 17) (pubC_size _) (fun j hj => by rw [Nat.add_assoc, h.go (67 + j) (by omega)]; exact rk_pub67 r j hj)
instance (r : RK) : ReadsAt Tryz.prog 35 (rkC r) 67 (.agg (pubC (r.q))) := ReadsAt.agg (k := 17) (pubC_size _) (fun j hj => rk_pub67 r j hj)
instance (cur : Array Value) (o : Nat) (r : RK) [h : AtR cur o r] : ReadsAt Tryz.prog 35 cur (o + 67) (.agg (pubC (r.q))) := ReadsAt.agg (k := 17) (pubC_size _) (fun j hj => by rw [Nat.add_assoc, h.go (67 + j) (by omega)]; exact rk_pub67 r j hj)
instance (r : RK) : ReadsAt Tryz.prog 53 (rkC r) 0 (.agg (rkC r)) := ReadsAt.agg (k := 84) (rkC_size r) (fun j _ => by rw [Nat.zero_add])
instance (cur : Array Value) (o : Nat) (r : RK) [h : AtR cur o r] : ReadsAt Tryz.prog 53 cur o (.agg (rkC r)) := ReadsAt.agg (k := 84) (rkC_size r) (fun j hj => h.go j hj)
instance (x y : RK) : WritesAt Tryz.prog 53 (rkC x) 0 (.agg (rkC y)) (rkC y) := WritesAt.whole Tryz.sizeOf53 (rkC_size _) (rkC_size _) (rkC_one _)
instance (r : RK) : ReadsAt Tryz.prog 98 (rkC r) 0 (.agg (rkC r)) := ReadsAt.agg (k := 84) (rkC_size r) (fun j _ => by rw [Nat.zero_add])
instance (cur : Array Value) (o : Nat) (r : RK) [h : AtR cur o r] : ReadsAt Tryz.prog 98 cur o (.agg (rkC r)) := ReadsAt.agg (k := 84) (rkC_size r) (fun j hj => h.go j hj)
instance (x y : RK) : WritesAt Tryz.prog 98 (rkC x) 0 (.agg (rkC y)) (rkC y) := WritesAt.whole Tryz.sizeOf98 (rkC_size _) (rkC_size _) (rkC_one _)
theorem rk_s0 (r : RK) (z : Vector UInt8 32) : splice (rkC r) 0 (idC z) = rkC { r with id := z } := by
  simp only [rkC]
  rw [sL _ _ _ (by simp [idC_size])]
instance (r : RK) (z : Vector UInt8 32) : WritesAt Tryz.prog 36 (rkC r) 0 (.agg (idC z)) (rkC { r with id := z }) := WritesAt.of Tryz.sizeOf36 (idC_size _) (idC_one _) (by rw [rkC_size]; omega) (by
  have h := (rk_s0 r z).symm
  rw [h, splice, idC_size]; rfl)
instance (r : RK) (z : Vector UInt8 32) : WritesAt Tryz.prog 37 (rkC r) 0 (.agg (idC z)) (rkC { r with id := z }) := WritesAt.of Tryz.sizeOf37 (idC_size _) (idC_one _) (by rw [rkC_size]; omega) (by
  have h := (rk_s0 r z).symm
  rw [h, splice, idC_size]; rfl)
instance (r : RK) (z : Vector UInt8 32) : WritesAt Tryz.prog 161 (rkC r) 0 (.agg (idC z)) (rkC { r with id := z }) := WritesAt.of Tryz.sizeOf161 (idC_size _) (idC_one _) (by rw [rkC_size]; omega) (by
  have h := (rk_s0 r z).symm
  rw [h, splice, idC_size]; rfl)
theorem rk_s32 (r : RK) (z : Vector UInt8 16) : splice (rkC r) 32 (idC z) = rkC { r with au := z } := by
  simp only [rkC]
  rw [sR _ _ _ 0 32 (by simp [idC_size]), sL _ _ _ (by simp [idC_size])]
instance (r : RK) (z : Vector UInt8 16) : WritesAt Tryz.prog 28 (rkC r) 32 (.agg (idC z)) (rkC { r with au := z }) := WritesAt.of Tryz.sizeOf28 (idC_size _) (idC_one _) (by rw [rkC_size]; omega) (by
  have h := (rk_s32 r z).symm
  rw [h, splice, idC_size]; rfl)
instance (r : RK) (z : Vector UInt8 16) : WritesAt Tryz.prog 59 (rkC r) 32 (.agg (idC z)) (rkC { r with au := z }) := WritesAt.of Tryz.sizeOf59 (idC_size _) (idC_one _) (by rw [rkC_size]; omega) (by
  have h := (rk_s32 r z).symm
  rw [h, splice, idC_size]; rfl)
instance (r : RK) (z : Vector UInt8 16) : WritesAt Tryz.prog 137 (rkC r) 32 (.agg (idC z)) (rkC { r with au := z }) := WritesAt.of Tryz.sizeOf137 (idC_size _) (idC_one _) (by rw [rkC_size]; omega) (by
  have h := (rk_s32 r z).symm
  rw [h, splice, idC_size]; rfl)
theorem rk_s48 (r : RK) (z : Int) : splice (rkC r) 48 (#[I z]) = rkC { r with n := z } := by
  simp only [rkC]
  rw [sR _ _ _ 16 48 (by simp [idC_size]), sR _ _ _ 0 16 (by simp [idC_size]), sL _ _ _ (by simp [idC_size])]
instance (r : RK) (z : Int) : SetAt (rkC r) 48 (I z) (rkC { r with n := z }) := ⟨by rw [rkC_size]; omega, (rk_s48 r z).symm⟩
theorem rk_s49 (r : RK) (z : Int) : splice (rkC r) 49 (#[I z]) = rkC { r with p := ⟨z, r.p.root⟩ } := by
  simp only [rkC]
  rw [sR _ _ _ 17 49 (by simp [idC_size]), sR _ _ _ 1 17 (by simp [idC_size]), sR _ _ _ 0 1 (by simp [idC_size]), sL _ _ _ (by simp [idC_size])]
instance (r : RK) (z : Int) : SetAt (rkC r) 49 (I z) (rkC { r with p := ⟨z, r.p.root⟩ }) := ⟨by rw [rkC_size]; omega, (rk_s49 r z).symm⟩
theorem rk_s66 (r : RK) (z : Int) : splice (rkC r) 66 (#[I z]) = rkC { r with leaf := z } := by
  simp only [rkC]
  rw [sR _ _ _ 34 66 (by simp [idC_size]), sR _ _ _ 18 34 (by simp [idC_size]), sR _ _ _ 17 18 (by simp [idC_size]), sR _ _ _ 16 17 (by simp [idC_size]), sR _ _ _ 0 16 (by simp [idC_size]), sL _ _ _ (by simp [idC_size])]
instance (r : RK) (z : Int) : SetAt (rkC r) 66 (I z) (rkC { r with leaf := z }) := ⟨by rw [rkC_size]; omega, (rk_s66 r z).symm⟩
theorem rk_s67 (r : RK) (z : Int) : splice (rkC r) 67 (#[I z]) = rkC { r with q := ⟨z, r.q.root⟩ } := by
  simp only [rkC]
  rw [sR _ _ _ 35 67 (by simp [idC_size]), sR _ _ _ 19 35 (by simp [idC_size]), sR _ _ _ 18 19 (by simp [idC_size]), sR _ _ _ 17 18 (by simp [idC_size]), sR _ _ _ 1 17 (by simp [idC_size]), sR _ _ _ 0 1 (by simp [idC_size]), sL _ _ _ (by simp [idC_size])]
instance (r : RK) (z : Int) : SetAt (rkC r) 67 (I z) (rkC { r with q := ⟨z, r.q.root⟩ }) := ⟨by rw [rkC_size]; omega, (rk_s67 r z).symm⟩
theorem rk_sp49 (r : RK) (z : Pub) : splice (rkC r) 49 (pubC z) = rkC { r with p := z } := by
  simp only [rkC]
  rw [sR _ _ _ 17 49 (by simp [idC_size]), sR _ _ _ 1 17 (by simp [idC_size]), sR _ _ _ 0 1 (by simp [idC_size]), sPub]
instance (r : RK) (z : Pub) : WritesAt Tryz.prog 31 (rkC r) 49 (.agg (pubC z)) (rkC { r with p := z }) := WritesAt.of Tryz.sizeOf31 (pubC_size _) (pubC_one _) (by rw [rkC_size]; omega) (by
  have h := (rk_sp49 r z).symm
  rw [h, splice, pubC_size]; rfl)
instance (r : RK) (z : Pub) : WritesAt Tryz.prog 35 (rkC r) 49 (.agg (pubC z)) (rkC { r with p := z }) := WritesAt.of Tryz.sizeOf35 (pubC_size _) (pubC_one _) (by rw [rkC_size]; omega) (by
  have h := (rk_sp49 r z).symm
  rw [h, splice, pubC_size]; rfl)
theorem rk_sp67 (r : RK) (z : Pub) : splice (rkC r) 67 (pubC z) = rkC { r with q := z } := by
  simp only [rkC]
  rw [sR _ _ _ 35 67 (by simp [idC_size]), sR _ _ _ 19 35 (by simp [idC_size]), sR _ _ _ 18 19 (by simp [idC_size]), sR _ _ _ 17 18 (by simp [idC_size]), sR _ _ _ 1 17 (by simp [idC_size]), sR _ _ _ 0 1 (by simp [idC_size]), sPub]
instance (r : RK) (z : Pub) : WritesAt Tryz.prog 31 (rkC r) 67 (.agg (pubC z)) (rkC { r with q := z }) := WritesAt.of Tryz.sizeOf31 (pubC_size _) (pubC_one _) (by rw [rkC_size]; omega) (by
  have h := (rk_sp67 r z).symm
  rw [h, splice, pubC_size]; rfl)
instance (r : RK) (z : Pub) : WritesAt Tryz.prog 35 (rkC r) 67 (.agg (pubC z)) (rkC { r with q := z }) := WritesAt.of Tryz.sizeOf35 (pubC_size _) (pubC_one _) (by rw [rkC_size]; omega) (by
  have h := (rk_sp67 r z).symm
  rw [h, splice, pubC_size]; rfl)
def kkC (k : KK) : Array Value := (#[I (k.n)] ++ (#[I (k.p.h)] ++ (idC (k.p.root) ++ (#[I (k.lim)] ++ (idC (k.next) ++ #[])))))
theorem kkC_size (k : KK) : (kkC k).size = 51 := by simp [kkC, idC_size]
theorem kkC_one (k : KK) : ∀ u ∈ (kkC k).toList, u.oneCell' = true := by
  intro u hu
  simp only [kkC, Array.toList_append, List.mem_append] at hu
  rcases hu with hu | hu | hu | hu | hu | hu
  · simp at hu; subst hu; rfl
  · simp at hu; subst hu; rfl
  · exact idC_one _ u hu
  · simp at hu; subst hu; rfl
  · exact idC_one _ u hu
  · simp at hu
abbrev kkK (k : KK) : Value := .agg (kkC k)
abbrev kkL (k : KK) : List Value := (kkC k).toList
theorem kkL_len (k : KK) : (kkL k).length = 51 := by simp [kkC_size]
theorem kkL_one (k : KK) : ∀ u ∈ kkL k, u.oneCell' = true := kkC_one k
class AtK (cur : Array Value) (o : Nat) (k : outParam KK) : Prop where
  go : ∀ i, i < 51 → cur[o + i]? = (kkC k)[i]?
theorem kk_a0 (k : KK) : (kkC k)[0]? = some (I (k.n)) := by
  refine z0 ?_
  simp only [kkC]
  rw [subI]
instance (k : KK) : GetAt (kkC k) 0 (I (k.n)) := ⟨kk_a0 k⟩
instance (cur : Array Value) (o : Nat) (k : KK) [h : AtK cur o k] : GetAt cur o (I (k.n)) := ⟨by rw [show o = o + 0 from rfl, h.go 0 (by omega)]; exact kk_a0 k⟩
theorem kk_a1 (k : KK) : (kkC k)[1]? = some (I (k.p.h)) := by
  refine z0 ?_
  simp only [kkC]
  rw [skip _ _ 1 0 _ (by simp [idC_size]), subI]
instance (k : KK) : GetAt (kkC k) 1 (I (k.p.h)) := ⟨kk_a1 k⟩
instance (cur : Array Value) (o : Nat) (k : KK) [h : AtK cur o k] : GetAt cur (o + 1) (I (k.p.h)) := ⟨by rw [show (o + 1) = o + 1 from rfl, h.go 1 (by omega)]; exact kk_a1 k⟩
theorem kk_a2 (k : KK) (j : Nat) (hj : j < 16) : (kkC k)[2 + j]? = (idC (k.p.root))[j]? := by
  simp only [kkC]
  rw [skip _ _ 2 1 _ (by simp [idC_size]), skip _ _ 1 0 _ (by simp [idC_size]), subV _ _ _ (by simpa [idC_size] using hj)]
instance (k : KK) : ReadsAt Tryz.prog 28 (kkC k) 2 (.agg (idC (k.p.root))) := ReadsAt.agg (k := 16) (idC_size _) (fun j hj => kk_a2 k j hj)
instance (cur : Array Value) (o : Nat) (k : KK) [h : AtK cur o k] : ReadsAt Tryz.prog 28 cur (o + 2) (.agg (idC (k.p.root))) := ReadsAt.agg (k := 16) (idC_size _) (fun j hj => by rw [Nat.add_assoc, h.go (2 + j) (by omega)]; exact kk_a2 k j hj)
instance (k : KK) : ReadsAt Tryz.prog 59 (kkC k) 2 (.agg (idC (k.p.root))) := ReadsAt.agg (k := 16) (idC_size _) (fun j hj => kk_a2 k j hj)
instance (cur : Array Value) (o : Nat) (k : KK) [h : AtK cur o k] : ReadsAt Tryz.prog 59 cur (o + 2) (.agg (idC (k.p.root))) := ReadsAt.agg (k := 16) (idC_size _) (fun j hj => by rw [Nat.add_assoc, h.go (2 + j) (by omega)]; exact kk_a2 k j hj)
instance (k : KK) : ReadsAt Tryz.prog 137 (kkC k) 2 (.agg (idC (k.p.root))) := ReadsAt.agg (k := 16) (idC_size _) (fun j hj => kk_a2 k j hj)
instance (cur : Array Value) (o : Nat) (k : KK) [h : AtK cur o k] : ReadsAt Tryz.prog 137 cur (o + 2) (.agg (idC (k.p.root))) := ReadsAt.agg (k := 16) (idC_size _) (fun j hj => by rw [Nat.add_assoc, h.go (2 + j) (by omega)]; exact kk_a2 k j hj)
instance (k : KK) : BytesAt (kkC k) 2 16 (k.p.root).toList := bytes_part (fun j hj => kk_a2 k j hj)
instance (cur : Array Value) (o : Nat) (k : KK) [h : AtK cur o k] : BytesAt cur (o + 2) 16 (k.p.root).toList := bytes_part (fun j hj => by rw [Nat.add_assoc, h.go (2 + j) (by omega)]; exact kk_a2 k j hj)
theorem kk_a18 (k : KK) : (kkC k)[18]? = some (I (k.lim)) := by
  refine z0 ?_
  simp only [kkC]
  rw [skip _ _ 18 17 _ (by simp [idC_size]), skip _ _ 17 16 _ (by simp [idC_size]), skip _ _ 16 0 _ (by simp [idC_size]), subI]
instance (k : KK) : GetAt (kkC k) 18 (I (k.lim)) := ⟨kk_a18 k⟩
instance (cur : Array Value) (o : Nat) (k : KK) [h : AtK cur o k] : GetAt cur (o + 18) (I (k.lim)) := ⟨by rw [show (o + 18) = o + 18 from rfl, h.go 18 (by omega)]; exact kk_a18 k⟩
theorem kk_a19 (k : KK) (j : Nat) (hj : j < 32) : (kkC k)[19 + j]? = (idC (k.next))[j]? := by
  simp only [kkC]
  rw [skip _ _ 19 18 _ (by simp [idC_size]), skip _ _ 18 17 _ (by simp [idC_size]), skip _ _ 17 1 _ (by simp [idC_size]), skip _ _ 1 0 _ (by simp [idC_size]), subV _ _ _ (by simpa [idC_size] using hj)]
instance (k : KK) : ReadsAt Tryz.prog 36 (kkC k) 19 (.agg (idC (k.next))) := ReadsAt.agg (k := 32) (idC_size _) (fun j hj => kk_a19 k j hj)
instance (cur : Array Value) (o : Nat) (k : KK) [h : AtK cur o k] : ReadsAt Tryz.prog 36 cur (o + 19) (.agg (idC (k.next))) := ReadsAt.agg (k := 32) (idC_size _) (fun j hj => by rw [Nat.add_assoc, h.go (19 + j) (by omega)]; exact kk_a19 k j hj)
instance (k : KK) : ReadsAt Tryz.prog 37 (kkC k) 19 (.agg (idC (k.next))) := ReadsAt.agg (k := 32) (idC_size _) (fun j hj => kk_a19 k j hj)
instance (cur : Array Value) (o : Nat) (k : KK) [h : AtK cur o k] : ReadsAt Tryz.prog 37 cur (o + 19) (.agg (idC (k.next))) := ReadsAt.agg (k := 32) (idC_size _) (fun j hj => by rw [Nat.add_assoc, h.go (19 + j) (by omega)]; exact kk_a19 k j hj)
instance (k : KK) : ReadsAt Tryz.prog 161 (kkC k) 19 (.agg (idC (k.next))) := ReadsAt.agg (k := 32) (idC_size _) (fun j hj => kk_a19 k j hj)
instance (cur : Array Value) (o : Nat) (k : KK) [h : AtK cur o k] : ReadsAt Tryz.prog 161 cur (o + 19) (.agg (idC (k.next))) := ReadsAt.agg (k := 32) (idC_size _) (fun j hj => by rw [Nat.add_assoc, h.go (19 + j) (by omega)]; exact kk_a19 k j hj)
instance (k : KK) : BytesAt (kkC k) 19 32 (k.next).toList := bytes_part (fun j hj => kk_a19 k j hj)
instance (cur : Array Value) (o : Nat) (k : KK) [h : AtK cur o k] : BytesAt cur (o + 19) 32 (k.next).toList := bytes_part (fun j hj => by rw [Nat.add_assoc, h.go (19 + j) (by omega)]; exact kk_a19 k j hj)
theorem kk_pub1 (k : KK) (j : Nat) (hj : j < 17) : (kkC k)[1 + j]? = (pubC (k.p))[j]? := by
  simp only [kkC]
  rw [skip _ _ 1 0 _ (by simp [idC_size]), sub_pub _ _ hj]
instance (k : KK) : ReadsAt Tryz.prog 31 (kkC k) 1 (.agg (pubC (k.p))) := ReadsAt.agg (k := 17) (pubC_size _) (fun j hj => kk_pub1 k j hj)
instance (cur : Array Value) (o : Nat) (k : KK) [h : AtK cur o k] : ReadsAt Tryz.prog 31 cur (o + 1) (.agg (pubC (k.p))) := ReadsAt.agg (k := 17) (pubC_size _) (fun j hj => by rw [Nat.add_assoc, h.go (1 + j) (by omega)]; exact kk_pub1 k j hj)
instance (k : KK) : ReadsAt Tryz.prog 35 (kkC k) 1 (.agg (pubC (k.p))) := ReadsAt.agg (k := 17) (pubC_size _) (fun j hj => kk_pub1 k j hj)
instance (cur : Array Value) (o : Nat) (k : KK) [h : AtK cur o k] : ReadsAt Tryz.prog 35 cur (o + 1) (.agg (pubC (k.p))) := ReadsAt.agg (k := 17) (pubC_size _) (fun j hj => by rw [Nat.add_assoc, h.go (1 + j) (by omega)]; exact kk_pub1 k j hj)
instance (k : KK) : ReadsAt Tryz.prog 79 (kkC k) 0 (.agg (kkC k)) := ReadsAt.agg (k := 51) (kkC_size k) (fun j _ => by rw [Nat.zero_add])
instance (cur : Array Value) (o : Nat) (k : KK) [h : AtK cur o k] : ReadsAt Tryz.prog 79 cur o (.agg (kkC k)) := ReadsAt.agg (k := 51) (kkC_size k) (fun j hj => h.go j hj)
instance (x y : KK) : WritesAt Tryz.prog 79 (kkC x) 0 (.agg (kkC y)) (kkC y) := WritesAt.whole Tryz.sizeOf79 (kkC_size _) (kkC_size _) (kkC_one _)
instance (k : KK) : ReadsAt Tryz.prog 39 (kkC k) 0 (.agg (kkC k)) := ReadsAt.agg (k := 51) (kkC_size k) (fun j _ => by rw [Nat.zero_add])
instance (cur : Array Value) (o : Nat) (k : KK) [h : AtK cur o k] : ReadsAt Tryz.prog 39 cur o (.agg (kkC k)) := ReadsAt.agg (k := 51) (kkC_size k) (fun j hj => h.go j hj)
instance (x y : KK) : WritesAt Tryz.prog 39 (kkC x) 0 (.agg (kkC y)) (kkC y) := WritesAt.whole Tryz.sizeOf39 (kkC_size _) (kkC_size _) (kkC_one _)
theorem kk_s0 (k : KK) (z : Int) : splice (kkC k) 0 (#[I z]) = kkC { k with n := z } := by
  simp only [kkC]
  rw [sL _ _ _ (by simp [idC_size])]
instance (k : KK) (z : Int) : SetAt (kkC k) 0 (I z) (kkC { k with n := z }) := ⟨by rw [kkC_size]; omega, (kk_s0 k z).symm⟩
theorem kk_s18 (k : KK) (z : Int) : splice (kkC k) 18 (#[I z]) = kkC { k with lim := z } := by
  simp only [kkC]
  rw [sR _ _ _ 17 18 (by simp [idC_size]), sR _ _ _ 16 17 (by simp [idC_size]), sR _ _ _ 0 16 (by simp [idC_size]), sL _ _ _ (by simp [idC_size])]
instance (k : KK) (z : Int) : SetAt (kkC k) 18 (I z) (kkC { k with lim := z }) := ⟨by rw [kkC_size]; omega, (kk_s18 k z).symm⟩
theorem kk_s19 (k : KK) (z : Vector UInt8 32) : splice (kkC k) 19 (idC z) = kkC { k with next := z } := by
  simp only [kkC]
  rw [sR _ _ _ 18 19 (by simp [idC_size]), sR _ _ _ 17 18 (by simp [idC_size]), sR _ _ _ 1 17 (by simp [idC_size]), sR _ _ _ 0 1 (by simp [idC_size]), sL _ _ _ (by simp [idC_size])]
instance (k : KK) (z : Vector UInt8 32) : WritesAt Tryz.prog 36 (kkC k) 19 (.agg (idC z)) (kkC { k with next := z }) := WritesAt.of Tryz.sizeOf36 (idC_size _) (idC_one _) (by rw [kkC_size]; omega) (by
  have h := (kk_s19 k z).symm
  rw [h, splice, idC_size]; rfl)
instance (k : KK) (z : Vector UInt8 32) : WritesAt Tryz.prog 37 (kkC k) 19 (.agg (idC z)) (kkC { k with next := z }) := WritesAt.of Tryz.sizeOf37 (idC_size _) (idC_one _) (by rw [kkC_size]; omega) (by
  have h := (kk_s19 k z).symm
  rw [h, splice, idC_size]; rfl)
instance (k : KK) (z : Vector UInt8 32) : WritesAt Tryz.prog 161 (kkC k) 19 (.agg (idC z)) (kkC { k with next := z }) := WritesAt.of Tryz.sizeOf161 (idC_size _) (idC_one _) (by rw [kkC_size]; omega) (by
  have h := (kk_s19 k z).symm
  rw [h, splice, idC_size]; rfl)
theorem kk_sp1 (k : KK) (z : Pub) : splice (kkC k) 1 (pubC z) = kkC { k with p := z } := by
  simp only [kkC]
  rw [sR _ _ _ 0 1 (by simp [idC_size]), sPub]
instance (k : KK) (z : Pub) : WritesAt Tryz.prog 31 (kkC k) 1 (.agg (pubC z)) (kkC { k with p := z }) := WritesAt.of Tryz.sizeOf31 (pubC_size _) (pubC_one _) (by rw [kkC_size]; omega) (by
  have h := (kk_sp1 k z).symm
  rw [h, splice, pubC_size]; rfl)
instance (k : KK) (z : Pub) : WritesAt Tryz.prog 35 (kkC k) 1 (.agg (pubC z)) (kkC { k with p := z }) := WritesAt.of Tryz.sizeOf35 (pubC_size _) (pubC_one _) (by rw [kkC_size]; omega) (by
  have h := (kk_sp1 k z).symm
  rw [h, splice, pubC_size]; rfl)

end Go.Proofs.YtheioljidangkaaGreat
