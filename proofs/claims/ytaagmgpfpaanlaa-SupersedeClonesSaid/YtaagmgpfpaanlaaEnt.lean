/- Identities, rows and their cells. No conditions. -/
import Derived.Test.YtaagmgpfpaanlaaInst
import Derived.Test.YtaagmgpfpaanlaaEx
import Derived.Test.YtaagmgpfpaanlaaZx
namespace Go.Proofs.Ytaagmgpfpaanlaa
open Go Go.RowKit Go.Sx
abbrev Id := Vector UInt8 32
abbrev Au := Vector UInt8 16
def u8v (b : UInt8) : Value := .int .u8 b.toNat
abbrev I (n : Int) : Value := .int .i64 n
def idC {n : Nat} (x : Vector UInt8 n) : Array Value := x.toArray.map u8v
theorem idC_size {n : Nat} (x : Vector UInt8 n) : (idC x).size = n := by simp [idC]
theorem idC_one {n : Nat} (x : Vector UInt8 n) : ∀ u ∈ (idC x).toList, u.oneCell' = true := by
  intro u hu
  simp [idC] at hu
  obtain ⟨b, _, rfl⟩ := hu
  rfl
theorem idC_at {n : Nat} (x : Vector UInt8 n) (j : Nat) (hj : j < n) : (idC x)[j]? = some (u8v x[j]) := by simp [idC, hj]
theorem idC_inj {n : Nat} {x y : Vector UInt8 n} (h : idC x = idC y) : x = y := by
  apply Vector.ext
  intro i hi
  have h1 := idC_at x i hi
  have h2 := idC_at y i hi
  rw [h, h2] at h1
  simp only [Option.some.injEq, u8v, Value.int.injEq, true_and] at h1
  have h3 : y[i].toNat = x[i].toNat := by omega
  exact (UInt8.toNat_inj.1 h3).symm
/-- a slice as three words -/
structure GV where
  A : Option Addr
  n : Nat
  c : Nat
abbrev GV.v (g : GV) : Value := .slice g.A g.n g.c
def gnil : GV := ⟨none, 0, 0⟩
structure RR where
  id : Id
  au : Au
  date : Int
  sup : Id
  grp : UInt8
  deriving DecidableEq
/-- a row in the heap: its groups are a slice -/
structure HR where
  r : RR
  g : GV
def rrC (r : RR) : Array Value := idC r.id ++ (idC r.au ++ (#[I r.date] ++ (idC r.sup ++ (#[u8v r.grp] ++ #[]))))
def rowC (r : RR) (g : GV) : Array Value := idC r.id ++ (idC r.au ++ (#[I r.date] ++ (#[g.v] ++ (#[.slice none 0 0] ++ (idC r.sup ++ #[])))))
def id0 : Id := Vector.replicate 32 0
def au0 : Au := Vector.replicate 16 0
def r0 : RR := ⟨id0, au0, 0, id0, 0⟩
theorem idC0 : idC id0 = Array.replicate 32 (.int .u8 0) := by simp [idC, id0, u8v]
theorem auC0 : idC au0 = Array.replicate 16 (.int .u8 0) := by simp [idC, au0, u8v]
instance : ZeroOf Try.prog 37 (idC id0) := ⟨_, Try.zeroValue37, by rw [idC0]; rfl⟩
instance : ZeroOf Try.prog 38 (idC id0) := ⟨_, Try.zeroValue38, by rw [idC0]; rfl⟩
instance : Builds Try.prog 38 [] (idC id0) := Builds.array (k := 1) inferInstance Try.underlying38 Try.sizeOf5 [] rfl (by simp) rfl
instance : Builds Try.prog 37 [] (idC id0) := Builds.array (k := 1) inferInstance Try.underlying37 Try.sizeOf5 [] rfl (by simp) rfl
theorem idC_set (x : Id) (j : Nat) (hj : j < 32) (b : UInt8) : splice (idC x) j #[u8v b] = idC (x.set j b) := by
  apply Array.ext'
  simp only [splice, idC, Vector.toArray_set, Array.map_set, Array.toList_set]
  have hs : (Array.map u8v x.toArray).toList.length = 32 := by simp
  rw [List.set_eq_take_append_cons_drop, if_pos (by rw [hs]; exact hj)]
  simp
theorem build_id (b : UInt8) : Builds Try.prog 38 [(0, u8v b)] (idC (id0.set 0 b)) :=
  Builds.array (k := 1) inferInstance Try.underlying38 Try.sizeOf5 [(0, #[u8v b])] rfl (by simp [idC_size]) (idC_set id0 0 (by omega) b)
instance : Builds Try.prog 38 [(0, .int .u8 1)] (idC (id0.set 0 1)) := build_id 1
instance : Builds Try.prog 38 [(0, .int .u8 2)] (idC (id0.set 0 2)) := build_id 2
instance : Builds Try.prog 38 [(0, .int .u8 3)] (idC (id0.set 0 3)) := build_id 3
instance : Builds Try.prog 38 [(0, .int .u8 4)] (idC (id0.set 0 4)) := build_id 4
abbrev idK (x : Id) : Value := .agg (idC x)
abbrev rrK (r : RR) : Value := .agg (rrC r)
abbrev hrK (x : HR) : Value := .agg (rowC x.r x.g)
theorem laidT : laidOutB Try.prog = true := by kernel_rfl
instance : KeyEnc Try.prog 38 idK := ⟨Maps.Keyed.of_law (deep_law_gate laidT (by decide +kernel) (by decide +kernel) (by kernel_rfl) (by rw [Try.underlying38])),
  fun a => keyOf_u8 Try.underlying38 Try.underlying5 (by kernel_rfl) (by kernel_rfl) (by kernel_rfl) (by decide +kernel) _ (idC_size a) (fun i hi => ⟨a[i], idC_at a i hi⟩),
  fun _ _ h => idC_inj (by simpa using h)⟩
theorem eq_vec {n : Nat} (T : TypeId) (hT : Try.prog.underlying T = some (.array n 5)) (a b : Vector UInt8 n) (w : World) : (Op.equalIn 10000 T (.agg (idC a)) (.agg (idC b))).run Try.prog w = .ok (decide (a = b)) w := by
  have h1 : ∀ x : Vector UInt8 n, ∀ i, i < n → (idC x)[i]? = some (.int .u8 (if h : i < n then (x[i].toNat : Int) else 0)) := fun x i hi => by
    rw [dif_pos hi]; exact idC_at x i hi
  have h2 : 10000 = 9998 + 2 := by omega
  have h3 := fun N hN => run_equalIn_bytes (P := Try.prog) (kd := .u8) w N 9998 hN T 5 n (idC a) (idC b) _ _ hT Try.sizeOf5 Try.isAgg5 Try.underlying5 (h1 a) (h1 b)
  have h4 := h3 _ h2
  refine h4.trans ?_
  refine congrArg (fun x => Result.ok x w) ?_
  rw [decide_eq_decide]
  constructor
  · intro h
    apply Vector.ext
    intro i hi
    have := h i hi
    simp only [hi, dif_pos] at this
    exact UInt8.toNat_inj.1 (by omega)
  · rintro rfl i hi; rfl
section
variable {n : Nat} {σ : Slots} {φ : Heap} {dst : Option Tmp} {ty : TypeId} {pos : String} {aft : Array Edge} {g : Option (Nat × Bool)}
theorem rd_eqid {T U : TypeId} {x y : Operand} {a b : Vector UInt8 n} (hx : ev σ x = some (.agg (idC a))) (hy : ev σ y = some (.agg (idC b))) (hT : Try.prog.underlying T = some (.array n 5)) (hm : Try.prog.eqGuardType Try.prog.depth T = false) : Rd Try.prog σ φ ⟨dst, .binOp .eql T x y U, ty, pos, aft, g⟩ (.bool (decide (a = b))) :=
  rd_eqagg hx hy hm (fun w => eq_vec T hT a b w) rfl
theorem rd_neid {T U : TypeId} {x y : Operand} {a b : Vector UInt8 n} (hx : ev σ x = some (.agg (idC a))) (hy : ev σ y = some (.agg (idC b))) (hT : Try.prog.underlying T = some (.array n 5)) (hm : Try.prog.eqGuardType Try.prog.depth T = false) : Rd Try.prog σ φ ⟨dst, .binOp .neq T x y U, ty, pos, aft, g⟩ (.bool (decide (a ≠ b))) :=
  rd_eqagg hx hy hm (fun w => eq_vec T hT a b w) (by simp)
end
end Go.Proofs.Ytaagmgpfpaanlaa
