/- The examples of the document, as plain facts. No conditions. -/
import Derived.Test.YtheioljidangkaaGreatW19
namespace Go.Proofs.YtheioljidangkaaGreat
open Go Go.RowKit Go.Sx
set_option linter.unusedVariables false
set_option linter.unusedSimpArgs false
abbrev xP : Pub := pubV 2
abbrev xQ : Pub := pubV 3
abbrev xS : Pub := pubV 4
abbrev i1 : Id := id0.set 0 1
abbrev i2 : Id := id0.set 0 2
def r1 : RK := ⟨i1, ofF xP, 0, xP, 7, xQ⟩
def r2 : RK := ⟨i2, ofF xP, 0, xP, 5, xS⟩
def k0 : KK := ⟨0, xP, 7, i1⟩
def k1 : KK := ⟨1, xQ, -1, id0⟩
def k0' : KK := ⟨0, xP, 5, i2⟩
def k1' : KK := ⟨1, xS, -1, id0⟩
theorem hP : xP.h = 3 := by decide
theorem hQ : xQ.h = 1 := by decide
theorem hS : xS.h = 2 := by decide
theorem nPQ : xP ≠ xQ := fun e => by have := congrArg Pub.h e; rw [hP, hQ] at this; omega
theorem nPS : xP ≠ xS := fun e => by have := congrArg Pub.h e; rw [hP, hS] at this; omega
theorem nQS : xQ ≠ xS := fun e => by have := congrArg Pub.h e; rw [hQ, hS] at this; omega
theorem n12 : i1 ≠ i2 := by decide
theorem n01 : id0 ≠ i1 := by decide
theorem kE1 : addE [] r1 5 1 = 0 := by
  have h : errR r1 5 1 = 0 := by simp [errR, r1, fineB, hP, hQ, nPQ]
  simp [addE, h]
theorem kE2 : addE [r1] r2 5 1 = 0 := by
  have h : errR r2 5 1 = 0 := by simp [errR, r2, fineB, hP, hS, nPS]
  rw [addE, if_neg (by simp [h]), if_neg]
  rintro ⟨x, hx, he⟩
  rw [List.mem_singleton.1 hx] at he
  exact n12 he
theorem kO1 : addO [] r1 5 1 = [r1] := by rw [addO, if_pos kE1]; rfl
theorem kO2 : addO [r1] r2 5 1 = [r1, r2] := by rw [addO, if_pos kE2]; rfl
theorem kC1 : chainF [r1] (ofF xP) = [k0, k1] := by
  have h0 : rootF [r1] (ofF xP) = some xP := by simp [rootF, rootsOf, r1, minOf, minFrom]
  have h1 : endF [r1] ⟨ofF xP, ((0 : Nat) : Int), xP⟩ = some r1 := by simp [endF, atPl, plOf, r1, minOf, minFrom]
  have h2 : endF [r1] ⟨ofF xP, ((1 : Nat) : Int), r1.q⟩ = none := by simp [endF, atPl, plOf, r1, minOf]
  rw [chainF, h0]
  show chainG _ _ (999 + 1 + 1) 0 xP = _
  rw [chainG, h1]
  simp only []
  rw [chainG, h2]
  rfl
theorem lt21 : rkLt r2 r1 := .inl (by decide)
theorem kC2 : chainF [r1, r2] (ofF xP) = [k0', k1'] := by
  have h0 : rootF [r1, r2] (ofF xP) = some xP := by
    have : ¬ pubLt xP xP := numLt_irrefl _ _
    simp [rootF, rootsOf, r1, r2, minOf, minFrom]
  have h1 : endF [r1, r2] ⟨ofF xP, ((0 : Nat) : Int), xP⟩ = some r2 := by
    have e : atPl [r1, r2] ⟨ofF xP, ((0 : Nat) : Int), xP⟩ = [r1, r2] := by simp [atPl, plOf, r1, r2]
    rw [endF, e]
    simp only [minOf, minFrom, if_pos lt21]
  have h2 : endF [r1, r2] ⟨ofF xP, ((1 : Nat) : Int), r2.q⟩ = none := by simp [endF, atPl, plOf, r1, r2, minOf]
  rw [chainF, h0]
  show chainG _ _ (999 + 1 + 1) 0 xP = _
  rw [chainG, h1]
  simp only []
  rw [chainG, h2]
  rfl
theorem kK0 : keyF [r1] (ofF xP) 0 = some k0 := by rw [keyF, kC1]; rfl
theorem kK1 : keyF [r1] (ofF xP) 1 = some k1 := by rw [keyF, kC1]; rfl
theorem kK2 : keyF [r1] (ofF xP) 2 = none := by rw [keyF, kC1]; rfl
theorem kK3 : keyF [r1, r2] (ofF xP) 1 = some k1' := by rw [keyF, kC2]; rfl
theorem kJ1 : judgeF [r1] (ofF xP) 0 xP 3 id0 = 0 := by rw [judgeF, kK0]; simp [k0]
theorem kJ2 : judgeF [r1] (ofF xP) 0 xP 7 i1 = 0 := by rw [judgeF, kK0]; simp [k0]
theorem kJ3 : judgeF [r1] (ofF xP) 0 xP 7 id0 = 3 := by rw [judgeF, kK0]; simp [k0, n01]
theorem kJ4 : judgeF [r1] (ofF xP) 1 xP 0 id0 = 2 := by rw [judgeF, kK1]; simp [k1, Ne.symm nPQ]
theorem kJ5 : judgeF [r1] (ofF xP) 2 xP 0 id0 = 1 := by rw [judgeF, kK2]; simp
theorem rd_kk_f {σ : Slots} {φ : Heap} {dst : Option Tmp} {ty : TypeId} {pos : String} {aft : Array Edge} {g : Option (Nat × Bool)} {U : TypeId} {x y : Operand} {a b : KK} (hx : ev σ x = some (kkK a)) (hy : ev σ y = some (kkK b)) (h : a = b) : Rd Tryz.prog σ φ ⟨dst, .binOp .neq 39 x y U, ty, pos, aft, g⟩ (.bool false) := by
  have := rd_neq39 (σ := σ) (φ := φ) (dst := dst) (ty := ty) (pos := pos) (aft := aft) (g := g) (U := U) hx hy
  rwa [decide_eq_false (by simp [h])] at this
theorem rd_pub_t {σ : Slots} {φ : Heap} {dst : Option Tmp} {ty : TypeId} {pos : String} {aft : Array Edge} {g : Option (Nat × Bool)} {U : TypeId} {x y : Operand} {a b : Pub} (hx : ev σ x = some (pubK a)) (hy : ev σ y = some (pubK b)) (h : a = b) : Rd Tryz.prog σ φ ⟨dst, .binOp .eql 35 x y U, ty, pos, aft, g⟩ (.bool true) := by
  have := rd_eql35 (σ := σ) (φ := φ) (dst := dst) (ty := ty) (pos := pos) (aft := aft) (g := g) (U := U) hx hy
  rwa [decide_eq_true h] at this
end Go.Proofs.YtheioljidangkaaGreat
