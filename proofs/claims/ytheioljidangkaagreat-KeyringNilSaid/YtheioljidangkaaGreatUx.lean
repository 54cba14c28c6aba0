/- Words of 32 bits. No conditions: general lemmas. -/
import Derived.Test.YtheioljidangkaaGreatVx
namespace Go.Sx
open Go Go.RowKit
abbrev w32 (x : UInt32) : Value := .int .u32 (x.toNat : Nat)
theorem wrap_u32 (n : Nat) : IntKind.u32.wrap (n : Int) = ((n % 4294967296 : Nat) : Int) := by
  simp [IntKind.wrap, IntKind.bits, IntKind.signed]
theorem add32 (x y : UInt32) : IntKind.u32.wrap ((x.toNat : Int) + (y.toNat : Int)) = ((x + y).toNat : Int) := by
  rw [← Int.natCast_add, wrap_u32, UInt32.toNat_add]
theorem lt32 (x : UInt32) : x.toNat < 2 ^ 32 := x.toNat_lt
theorem bv32 (x : UInt32) : (BitVec.ofInt IntKind.u32.bits ((x.toNat : Nat) : Int)).toNat = x.toNat := by
  rw [BitVec.ofInt_natCast, BitVec.toNat_ofNat]
  exact Nat.mod_eq_of_lt (lt32 x)
theorem wrap32 (x : UInt32) : IntKind.u32.wrap ((x.toNat : Nat) : Int) = ((x.toNat : Nat) : Int) := by
  rw [wrap_u32]; congr 1; exact Nat.mod_eq_of_lt (lt32 x)
theorem and32 (x y : UInt32) : bitsI .and .u32 ((x.toNat : Nat) : Int) ((y.toNat : Nat) : Int) = some (((x &&& y).toNat : Nat) : Int) := by
  simp only [bitsI, BitVec.toNat_and, bv32]
  rw [← UInt32.toNat_and, wrap32]
theorem or32 (x y : UInt32) : bitsI .or .u32 ((x.toNat : Nat) : Int) ((y.toNat : Nat) : Int) = some (((x ||| y).toNat : Nat) : Int) := by
  simp only [bitsI, BitVec.toNat_or, bv32]
  rw [← UInt32.toNat_or, wrap32]
theorem xor32 (x y : UInt32) : bitsI .xor .u32 ((x.toNat : Nat) : Int) ((y.toNat : Nat) : Int) = some (((x ^^^ y).toNat : Nat) : Int) := by
  simp only [bitsI, BitVec.toNat_xor, bv32]
  rw [← UInt32.toNat_xor, wrap32]
def shr32 (x : UInt32) (n : Nat) : UInt32 := x >>> UInt32.ofNat n
def shl32 (x : UInt32) (n : Nat) : UInt32 := x <<< UInt32.ofNat n
theorem shr32_toNat (x : UInt32) (n : Nat) (hn : n < 32) : (shr32 x n).toNat = x.toNat / 2 ^ n := by
  have h : (UInt32.ofNat n).toNat % 32 = n := by simp; omega
  rw [shr32, UInt32.toNat_shiftRight, h, Nat.shiftRight_eq_div_pow]
theorem shl32_toNat (x : UInt32) (n : Nat) (hn : n < 32) : (shl32 x n).toNat = x.toNat * 2 ^ n % 4294967296 := by
  have h : (UInt32.ofNat n).toNat % 32 = n := by simp; omega
  rw [shl32, UInt32.toNat_shiftLeft, h, Nat.shiftLeft_eq]
theorem shr_32 (x : UInt32) (n : Nat) (hn : n < 32) : ((x.toNat : Nat) : Int).fdiv (2 ^ min ((n : Nat) : Int).toNat IntKind.u32.bits) = (((shr32 x n).toNat : Nat) : Int) := by
  have h1 : min ((n : Nat) : Int).toNat IntKind.u32.bits = n := by
    have : IntKind.u32.bits = 32 := rfl
    omega
  rw [h1, shr32_toNat x n hn, Int.fdiv_eq_ediv_of_nonneg _ (Int.le_of_lt (Int.pow_pos (by omega)))]
  push_cast; rfl
theorem shl_32 (x : UInt32) (n : Nat) (hn : n < 32) : IntKind.u32.wrap (((x.toNat : Nat) : Int) * 2 ^ min ((n : Nat) : Int).toNat IntKind.u32.bits) = (((shl32 x n).toNat : Nat) : Int) := by
  have h1 : min ((n : Nat) : Int).toNat IntKind.u32.bits = n := by
    have : IntKind.u32.bits = 32 := rfl
    omega
  have e : ((x.toNat : Nat) : Int) * 2 ^ n = ((x.toNat * 2 ^ n : Nat) : Int) := by push_cast; rfl
  rw [h1, shl32_toNat x n hn, e, wrap_u32]
def rotR (x : UInt32) (n : Nat) : UInt32 := shr32 x n ||| shl32 x (32 - n)
theorem u8_32 (b : UInt8) : IntKind.u32.wrap ((b.toNat : Nat) : Int) = ((b.toUInt32.toNat : Nat) : Int) := by
  rw [wrap_u32]; congr 1
  have := b.toNat_lt
  rw [UInt8.toNat_toUInt32]; omega
theorem u32_8 (x : UInt32) : IntKind.u8.wrap ((x.toNat : Nat) : Int) = ((x.toUInt8.toNat : Nat) : Int) := by
  rw [UInt32.toNat_toUInt8]
  simp [IntKind.wrap, IntKind.bits, IntKind.signed]
section
variable {P : Program} {σ : Slots} {φ : Heap} {dst : Option Tmp} {ty : TypeId} {pos : String} {aft : Array Edge} {g : Option (Nat × Bool)}
theorem rd_not32 {T : TypeId} {x : Operand} {a : UInt32} (hx : ev σ x = some (w32 a)) : Rd P σ φ ⟨dst, .unOp .xor T x, ty, pos, aft, g⟩ (w32 (4294967295 ^^^ a)) := fun A w hs _ => by
  have h := xor32 4294967295 a
  simp only [bitsI, Option.some.injEq] at h
  have hm : (if IntKind.u32.signed then (-1 : Int) else IntKind.u32.max) = (((4294967295 : UInt32).toNat : Nat) : Int) := by decide
  simp only [execOp, hs.ev hx, Op.unary, hm, Op.intBits, h]
  simp
/-- an element of an array behind a pointer -/
theorem rd_ixArr {T E : TypeId} {x ix : Operand} {b o n k : Nat} {kd : IntKind} {j : Int} (r : Nat) (hx : ev σ x = some (.pointer (some ⟨b, o, none⟩))) (hi : ev σ ix = some (.int kd j))
    (hT : P.underlying T = some (.array n E)) (hE : ∀ w, (sizeOf E).run P w = .ok k w) (hj : 0 ≤ j ∧ j < n) (hr : o + j.toNat * k = r) :
    Rd P σ φ ⟨dst, .indexAddr T x ix, ty, pos, aft, g⟩ (.pointer (some ⟨b, r, none⟩)) := fun a w hs _ => by
  subst hr
  simp [execOp, hs.ev hx, hs.ev hi, Instr.indexAt, asIntOf, run_underlying hT, Instr.sureAddr, hj.1, hj.2, hE, add_plain]
theorem rd_neg {T : TypeId} {x : Operand} {m : Int} (z : Int) (hx : ev σ x = some (.int .i64 m)) (hz : IntKind.i64.wrap (0 - m) = z) : Rd P σ φ ⟨dst, .unOp .neg T x, ty, pos, aft, g⟩ (.int .i64 z) := fun A w hs _ => by
  subst hz
  simp [execOp, hs.ev hx, Op.unary, Op.intArith]
end
theorem and31 : ∀ n : Fin 32, 0 < n.1 → bitsI .and .u64 (IntKind.u64.wrap (-((n.1 : Nat) : Int))) 31 = some (((32 - n.1 : Nat) : Nat) : Int) := by decide +kernel
theorem sub31 : ∀ n : Fin 32, 0 < n.1 → IntKind.u64.wrap (32 - (((32 - n.1 : Nat) : Nat) : Int)) = ((n.1 : Nat) : Int) := by decide +kernel
end Go.Sx
