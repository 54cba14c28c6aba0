/- SHA-256: words as cells, the plain functions. No conditions. -/
import Derived.Test.YtheioljidangkaaGreatInst
import Derived.Test.YtheioljidangkaaGreatUx
namespace Go.Proofs.YtheioljidangkaaGreat
open Go Go.RowKit Go.Sx
set_option linter.unusedVariables false
set_option linter.unusedSimpArgs false
theorem wrap_i64 (n : Int) (h1 : -9223372036854775808 ≤ n) (h2 : n ≤ 9223372036854775807) : IntKind.i64.wrap n = n := by
  simp [IntKind.wrap, IntKind.bits, IntKind.signed]; omega
abbrev I (n : Int) : Value := .int .i64 n
abbrev ptr (p : Nat) : Value := .pointer (some ⟨p, 0, none⟩)
abbrev WV (n : Nat) := Vector UInt32 n
def wC {n : Nat} (v : WV n) : Array Value := v.toArray.map w32
abbrev wK {n : Nat} (v : WV n) : Value := .agg (wC v)
theorem wC_size {n : Nat} (v : WV n) : (wC v).size = n := by simp [wC]
theorem wC_one {n : Nat} (v : WV n) : ∀ u ∈ (wC v).toList, u.oneCell' = true := by
  intro u hu
  simp [wC] at hu
  obtain ⟨b, _, rfl⟩ := hu
  rfl
theorem wC_at {n : Nat} (v : WV n) (j : Nat) (hj : j < n) : (wC v)[j]? = some (w32 v[j]) := by simp [wC, hj]
instance (v : WV 8) : GetAt (wC v) 0 (w32 v[0]) := ⟨wC_at v 0 (by omega)⟩
instance (v : WV 8) : GetAt (wC v) 1 (w32 v[1]) := ⟨wC_at v 1 (by omega)⟩
instance (v : WV 8) : GetAt (wC v) 2 (w32 v[2]) := ⟨wC_at v 2 (by omega)⟩
instance (v : WV 8) : GetAt (wC v) 3 (w32 v[3]) := ⟨wC_at v 3 (by omega)⟩
instance (v : WV 8) : GetAt (wC v) 4 (w32 v[4]) := ⟨wC_at v 4 (by omega)⟩
instance (v : WV 8) : GetAt (wC v) 5 (w32 v[5]) := ⟨wC_at v 5 (by omega)⟩
instance (v : WV 8) : GetAt (wC v) 6 (w32 v[6]) := ⟨wC_at v 6 (by omega)⟩
instance (v : WV 8) : GetAt (wC v) 7 (w32 v[7]) := ⟨wC_at v 7 (by omega)⟩
theorem w_get {n : Nat} (v : WV n) {j : Nat} (hj : j < n) : GetAt (wC v) j (w32 v[j]) := ⟨wC_at v j hj⟩
theorem wC_set {n : Nat} (v : WV n) (j : Nat) (hj : j < n) (x : UInt32) : SetAt (wC v) j (w32 x) (wC (v.set j x)) := ⟨by rw [wC_size]; omega, by
  apply Array.ext'
  simp only [wC, Vector.toArray_set, Array.map_set, Array.toList_set]
  have hs : (Array.map w32 v.toArray).toList.length = n := by simp
  rw [List.set_eq_take_append_cons_drop, if_pos (by rw [hs]; exact hj)]
  simp⟩
theorem w_splice {n : Nat} (v : WV n) (j : Nat) (hj : j < n) (x : UInt32) : splice (wC v) j #[w32 x] = wC (v.set j x) := by
  have h := (wC_set v j hj x).go
  rw [h, splice]; rfl
def w0 (n : Nat) : WV n := Vector.replicate n 0
theorem wC0 (n : Nat) : wC (w0 n) = Array.replicate n (.int .u32 0) := by simp [wC, w0]
/-! the plain functions -/
/-- a round -/
def roundF (v : WV 8) (k w : UInt32) : WV 8 :=
  let one := v[7] + (rotR v[4] 6 ^^^ rotR v[4] 11 ^^^ rotR v[4] 25) + ((v[4] &&& v[5]) ^^^ (((4294967295 : UInt32) ^^^ v[4]) &&& v[6])) + k + w
  let two := (rotR v[0] 2 ^^^ rotR v[0] 13 ^^^ rotR v[0] 22) + ((v[0] &&& v[1]) ^^^ (v[0] &&& v[2]) ^^^ (v[1] &&& v[2]))
  #v[one + two, v[0], v[1], v[2], v[3] + one, v[4], v[5], v[6]]
def plusF (v u : WV 8) : WV 8 := #v[v[0] + u[0], v[1] + u[1], v[2] + u[2], v[3] + u[3], v[4] + u[4], v[5] + u[5], v[6] + u[6], v[7] + u[7]]
def w4 (a b c d : UInt8) : UInt32 := shl32 a.toUInt32 24 ||| shl32 b.toUInt32 16 ||| shl32 c.toUInt32 8 ||| d.toUInt32
instance : ZeroOf Tryz.prog 184 (wC (w0 8)) := ⟨_, Tryz.zeroValue184, by rw [wC0]; rfl⟩
instance : ZeroOf Tryz.prog 152 (wC (w0 8)) := ⟨_, Tryz.zeroValue152, by rw [wC0]; rfl⟩
instance : ZeroOf Tryz.prog 192 (wC (w0 16)) := ⟨_, Tryz.zeroValue192, by rw [wC0]; rfl⟩
instance : ZeroOf Tryz.prog 153 (wC (w0 64)) := ⟨_, Tryz.zeroValue153, by rw [wC0]; rfl⟩
theorem fill8 (a b c d e f g h : UInt32) : fillS (wC (w0 8)) [(0, #[w32 a]), (1, #[w32 b]), (2, #[w32 c]), (3, #[w32 d]), (4, #[w32 e]), (5, #[w32 f]), (6, #[w32 g]), (7, #[w32 h])] = wC #v[a, b, c, d, e, f, g, h] := by
  rw [fillS, w_splice _ 0 (by omega), fillS, w_splice _ 1 (by omega), fillS, w_splice _ 2 (by omega), fillS, w_splice _ 3 (by omega), fillS, w_splice _ 4 (by omega), fillS, w_splice _ 5 (by omega), fillS, w_splice _ 6 (by omega), fillS, w_splice _ 7 (by omega), fillS]
  congr 1
instance (a b c d e f g h : UInt32) : Builds Tryz.prog 152 [(0, w32 a), (1, w32 b), (2, w32 c), (3, w32 d), (4, w32 e), (5, w32 f), (6, w32 g), (7, w32 h)] (wC #v[a, b, c, d, e, f, g, h]) :=
  Builds.array (k := 1) inferInstance Tryz.underlying152 Tryz.sizeOf149 [(0, #[w32 a]), (1, #[w32 b]), (2, #[w32 c]), (3, #[w32 d]), (4, #[w32 e]), (5, #[w32 f]), (6, #[w32 g]), (7, #[w32 h])] (by simp [placed, Value.cells]) (by simp [wC_size]) (fill8 a b c d e f g h)
instance (a b c d e f g h : UInt32) : Builds Tryz.prog 184 [(0, w32 a), (1, w32 b), (2, w32 c), (3, w32 d), (4, w32 e), (5, w32 f), (6, w32 g), (7, w32 h)] (wC #v[a, b, c, d, e, f, g, h]) :=
  Builds.struct inferInstance Tryz.underlying184 (by kernel_rfl) #[(0, 1), (1, 1), (2, 1), (3, 1), (4, 1), (5, 1), (6, 1), (7, 1)] (by kernel_rfl) [(0, #[w32 a]), (1, #[w32 b]), (2, #[w32 c]), (3, #[w32 d]), (4, #[w32 e]), (5, #[w32 f]), (6, #[w32 g]), (7, #[w32 h])] (by simp [placed, Value.cells]) (by simp [wC_size]) (fill8 a b c d e f g h)
instance (x y : WV 8) : WritesAt Tryz.prog 184 (wC x) 0 (.agg (wC y)) (wC y) := WritesAt.whole Tryz.sizeOf184 (wC_size _) (wC_size _) (wC_one _)
instance (x y : WV 8) : WritesAt Tryz.prog 152 (wC x) 0 (.agg (wC y)) (wC y) := WritesAt.whole Tryz.sizeOf152 (wC_size _) (wC_size _) (wC_one _)
instance (x y : WV 64) : WritesAt Tryz.prog 153 (wC x) 0 (.agg (wC y)) (wC y) := WritesAt.whole Tryz.sizeOf153 (wC_size _) (wC_size _) (wC_one _)
instance (x y : WV 16) : WritesAt Tryz.prog 192 (wC x) 0 (.agg (wC y)) (wC y) := WritesAt.whole Tryz.sizeOf192 (wC_size _) (wC_size _) (wC_one _)
instance (x : WV 8) : ReadsAt Tryz.prog 184 (wC x) 0 (.agg (wC x)) := ReadsAt.agg (k := 8) (wC_size _) (fun j _ => by rw [Nat.zero_add])
instance (x : WV 8) : ReadsAt Tryz.prog 152 (wC x) 0 (.agg (wC x)) := ReadsAt.agg (k := 8) (wC_size _) (fun j _ => by rw [Nat.zero_add])
instance (x : WV 64) : ReadsAt Tryz.prog 153 (wC x) 0 (.agg (wC x)) := ReadsAt.agg (k := 64) (wC_size _) (fun j _ => by rw [Nat.zero_add])
instance (x : WV 16) : ReadsAt Tryz.prog 192 (wC x) 0 (.agg (wC x)) := ReadsAt.agg (k := 16) (wC_size _) (fun j _ => by rw [Nat.zero_add])
end Go.Proofs.YtheioljidangkaaGreat
