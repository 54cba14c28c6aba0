/- Bytes in memory against numbers and identities. No conditions: lemmas. -/
import Derived.Test.YtegjmmjjchpeoaaEnc
import Derived.Test.YtegjmmjjchpeoaaZx
namespace Go.Proofs.Ytegjmmjjchpeoaa
open Go Go.RowKit Go.Sx
abbrev by8 (bs : List UInt8) : List Value := bs.map u8v
theorem by8_one (bs : List UInt8) : ∀ u ∈ by8 bs, u.oneCell' = true := by
  intro u hu
  obtain ⟨b, _, rfl⟩ := List.mem_map.1 hu
  rfl
theorem bytes_get {cs : Array Value} {o n : Nat} {bs : List UInt8} (h : BytesAt cs o n bs) (j : Nat) (hj : j < n) : cs[o + j]? = some (.int .u8 ((byteAt bs j : Nat) : Int)) := by
  have hl := h.len
  rw [h.go j bs[j] (by simp [hl, hj])]
  simp [byteAt, List.getD_eq_getElem?_getD, show j < bs.length by omega]
theorem bits_or (x y k : Nat) (hx : 2 ^ k ∣ x) (hy : y < 2 ^ k) (h : x + y < 9223372036854775808) : bitsI .or .i64 (x : Int) (y : Int) = some ((x + y : Nat) : Int) := by
  obtain ⟨a, rfl⟩ := hx
  have e : 2 ^ k * a ||| y = 2 ^ k * a + y := by
    have := Nat.shiftLeft_add_eq_or_of_lt hy a
    rw [Nat.shiftLeft_eq, Nat.mul_comm] at this
    exact this.symm
  have e1 : (BitVec.ofInt IntKind.i64.bits ((2 ^ k * a : Nat) : Int) ||| BitVec.ofInt IntKind.i64.bits ((y : Nat) : Int)).toNat = 2 ^ k * a + y := by
    rw [BitVec.toNat_or]
    simp only [BitVec.ofInt_natCast, BitVec.toNat_ofNat]
    rw [Nat.mod_eq_of_lt (by show _ < 18446744073709551616; omega), Nat.mod_eq_of_lt (by show _ < 18446744073709551616; omega), e]
  simp only [bitsI]
  rw [e1, wrap_i64 _ (by omega) (by omega)]
theorem shl_i64 (a : Nat) (k : Nat) (hk : k ≤ 32) (hk2 : a * 2 ^ k < 9223372036854775808) : IntKind.i64.wrap ((a : Int) * 2 ^ min ((k : Int)).toNat IntKind.i64.bits) = ((a * 2 ^ k : Nat) : Int) := by
  have e : min ((k : Int)).toNat IntKind.i64.bits = k := by
    simp [IntKind.bits]; omega
  rw [e]
  have e2 : (a : Int) * 2 ^ k = ((a * 2 ^ k : Nat) : Int) := by push_cast; rfl
  rw [e2, wrap_i64 _ (by omega) (by omega)]
theorem idAt_at (b : List UInt8) (o j : Nat) (hj : j < 32) : (idC (idAt b o))[j]? = some (.int .u8 ((byteAt b (o + j) : Nat) : Int)) := by
  rw [idC_at _ j hj]
  simp [idAt, byteAt, u8v]
theorem reads_idAt {cs : Array Value} {o n : Nat} {bs : List UInt8} (h : BytesAt cs o n bs) (k : Nat) (hk : k + 32 ≤ n) : ReadsAt Try.prog 27 cs (o + k) (idK (idAt bs k)) :=
  ReadsAt.agg (k := 32) (idC_size _) fun j hj => by
    rw [idAt_at _ _ j hj, Nat.add_assoc, bytes_get h (k + j) (by omega)]
theorem wrap_u8 (n : Nat) : IntKind.u8.wrap (n : Int) = (((UInt8.ofNat n).toNat : Nat) : Int) := by
  simp [IntKind.wrap, IntKind.bits, IntKind.signed]
theorem bytes_sub {cs : Array Value} {o n : Nat} {bs : List UInt8} (h : BytesAt cs o n bs) (k m : Nat) (hk : k + m ≤ n) : BytesAt cs (o + k) m ((bs.drop k).take m) := ⟨by
  rw [List.length_take, List.length_drop, h.len]; omega, fun j x hj => by
  rw [List.getElem?_take] at hj
  split at hj
  · rw [List.getElem?_drop] at hj
    rw [Nat.add_assoc]; exact h.go _ _ hj
  · cases hj⟩
theorem bytes_sub0 {cs : Array Value} {o n : Nat} {bs : List UInt8} (h : BytesAt cs o n bs) (m : Nat) (hk : m ≤ n) : BytesAt cs o m (bs.take m) := by
  have := bytes_sub h 0 m (by omega)
  simpa using this
theorem getD_take {bs : List UInt8} {k m : Nat} (h : k < m) : (bs.take m).getD k 0 = bs.getD k 0 := by
  simp [List.getD_eq_getElem?_getD, h]
theorem byteAt_take {bs : List UInt8} {k m : Nat} (h : k < m) : byteAt (bs.take m) k = byteAt bs k := by simp only [byteAt, getD_take h]
theorem n4_take {bs : List UInt8} {k m : Nat} (h : k + 4 ≤ m) : n4 (bs.take m) k = n4 bs k := by
  simp only [n4, byteAt_take (show k < m by omega), byteAt_take (show k + 1 < m by omega), byteAt_take (show k + 2 < m by omega), byteAt_take (show k + 3 < m by omega)]
theorem entAt_take {bs : List UInt8} {m : Nat} (h : 41 ≤ m) : entAt (bs.take m) 0 = entAt bs 0 := by
  have e : idAt (bs.take m) 0 = idAt bs 0 := by
    apply Vector.ext
    intro i hi
    simp only [idAt, Vector.getElem_ofFn]
    exact getD_take (by omega)
  simp only [entAt, e, n4_take (show 0 + 32 + 4 ≤ m by omega), n4_take (show 0 + 36 + 4 ≤ m by omega), byteAt_take (show 0 + 40 < m by omega)]
theorem n4_bounds (b : List UInt8) (o : Nat) : 0 ≤ n4 b o ∧ n4 b o < 4294967296 := by
  have h0 := byteAt_lt b o; have h1 := byteAt_lt b (o + 1); have h2 := byteAt_lt b (o + 2); have h3 := byteAt_lt b (o + 3)
  unfold n4; omega
theorem b4_i64 (n : Int) (h : 0 ≤ n ∧ n < 4294967296) (k : Nat) : IntKind.u8.wrap (n.fdiv (2 ^ k)) = (((UInt8.ofNat (n.toNat / 2 ^ k)).toNat : Nat) : Int) := by
  obtain ⟨m, rfl⟩ := Int.eq_ofNat_of_zero_le h.1
  have e : (m : Int).fdiv (2 ^ k) = ((m / 2 ^ k : Nat) : Int) := by
    rw [Int.fdiv_eq_ediv_of_nonneg _ (by exact Int.le_of_lt (by exact_mod_cast Nat.two_pow_pos k))]
    push_cast; rfl
  rw [e, wrap_u8]; simp
theorem and1_u8 (a : Nat) (h : a < 256) : bitsI .and .u8 (a : Int) 1 = some ((a % 2 : Nat) : Int) := by
  have e1 : (BitVec.ofInt IntKind.u8.bits (a : Int) &&& BitVec.ofInt IntKind.u8.bits 1).toNat = a % 2 := by
    rw [BitVec.toNat_and]
    have h1 : (BitVec.ofInt IntKind.u8.bits 1).toNat = 1 := rfl
    rw [h1]
    simp only [BitVec.ofInt_natCast, BitVec.toNat_ofNat]
    rw [Nat.mod_eq_of_lt (show a < 2 ^ IntKind.u8.bits from h), Nat.and_one_is_mod]
  simp only [bitsI]
  rw [e1]
  have : IntKind.u8.wrap ((a % 2 : Nat) : Int) = ((a % 2 : Nat) : Int) := by simp [IntKind.wrap, IntKind.bits, IntKind.signed]; omega
  rw [this]
set_option maxRecDepth 10000 in
theorem and2 : ∀ a : Fin 256, a.val &&& 2 = a.val / 2 % 2 * 2 := by decide +kernel
theorem and2_u8 (a : Nat) (h : a < 256) : bitsI .and .u8 (a : Int) 2 = some ((a / 2 % 2 * 2 : Nat) : Int) := by
  have e1 : (BitVec.ofInt IntKind.u8.bits (a : Int) &&& BitVec.ofInt IntKind.u8.bits 2).toNat = a / 2 % 2 * 2 := by
    rw [BitVec.toNat_and]
    have h1 : (BitVec.ofInt IntKind.u8.bits 2).toNat = 2 := rfl
    rw [h1]
    simp only [BitVec.ofInt_natCast, BitVec.toNat_ofNat]
    rw [Nat.mod_eq_of_lt (show a < 2 ^ IntKind.u8.bits from h)]
    exact and2 ⟨a, h⟩
  simp only [bitsI]
  rw [e1]
  have : IntKind.u8.wrap ((a / 2 % 2 * 2 : Nat) : Int) = ((a / 2 % 2 * 2 : Nat) : Int) := by simp [IntKind.wrap, IntKind.bits, IntKind.signed]; omega
  rw [this]
end Go.Proofs.Ytegjmmjjchpeoaa
