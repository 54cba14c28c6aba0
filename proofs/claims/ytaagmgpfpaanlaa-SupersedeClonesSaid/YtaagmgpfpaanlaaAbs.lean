/- What the functions of supersede compute, as plain functions. No conditions. -/
import Derived.Test.YtaagmgpfpaanlaaRows2
import Derived.Test.YtaagmgpfpaanlaaQx
namespace Go.Proofs.Ytaagmgpfpaanlaa
open Go Go.RowKit Go.Sx
theorem wrap_i64 (n : Int) (h1 : -9223372036854775808 ≤ n) (h2 : n ≤ 9223372036854775807) : IntKind.i64.wrap n = n := by
  simp [IntKind.wrap, IntKind.bits, IntKind.signed]; omega
theorem wrap_u8 (n : Nat) (h : n < 256) : IntKind.u8.wrap ((n : Nat) : Int) = ((n : Nat) : Int) := by
  simp [IntKind.wrap, IntKind.bits, IntKind.signed]; omega
abbrev ptr (p : Nat) : Value := .pointer (some ⟨p, 0, none⟩)
abbrev idL (x : Id) : List Value := (idC x).toList
theorem idL_len (x : Id) : (idL x).length = 32 := by simp [idC_size]
theorem idL_one (x : Id) : ∀ u ∈ idL x, u.oneCell' = true := idC_one x
abbrev idsL (l : List Id) : List Value := l.flatMap idL
theorem idsL_one (l : List Id) : ∀ u ∈ idsL l, u.oneCell' = true := fun u hu => by
  obtain ⟨y, _, hy⟩ := List.mem_flatMap.1 hu
  exact idL_one y u hy
theorem rrsL_one (l : List RR) : ∀ u ∈ l.flatMap rrL, u.oneCell' = true := fun u hu => by
  obtain ⟨y, _, hy⟩ := List.mem_flatMap.1 hu
  exact rrC_one y u hy
theorem hrsL_one (l : List HR) : ∀ u ∈ l.flatMap hrL, u.oneCell' = true := fun u hu => by
  obtain ⟨y, _, hy⟩ := List.mem_flatMap.1 hu
  exact rowC_one y.r y.g u hy
abbrev idLt (a b : Id) : Prop := a.toList < b.toList
def cmpF (a b : Int) : Int := if a < b then -1 else if b < a then 1 else 0
def cmpId (a b : Id) : Int := Lib.compareBytes a.toList b.toList
def orF : List Int → Int
  | [] => 0
  | x :: r => if x ≠ 0 then x else orF r
theorem compareBytes_lt : ∀ (a b : List UInt8), Lib.compareBytes a b < 0 ↔ a < b
  | [], [] => by simp [Lib.compareBytes]
  | [], _ :: _ => by simp [Lib.compareBytes]
  | _ :: _, [] => by simp [Lib.compareBytes]
  | x :: a, y :: b => by
    rw [Lib.compareBytes, List.cons_lt_cons_iff]
    by_cases h1 : x < y
    · simp [h1]
    · by_cases h2 : y < x
      · have hne : x ≠ y := fun e => by subst e; exact absurd h2 (UInt8.lt_irrefl _)
        simp [h1, h2, hne]
      · have he : x = y := UInt8.le_antisymm (UInt8.not_lt.1 h2) (UInt8.not_lt.1 h1)
        subst he
        simp [compareBytes_lt a b]
theorem compareBytes_zero : ∀ (a b : List UInt8), Lib.compareBytes a b = 0 ↔ a = b
  | [], [] => by simp [Lib.compareBytes]
  | [], _ :: _ => by simp [Lib.compareBytes]
  | _ :: _, [] => by simp [Lib.compareBytes]
  | x :: a, y :: b => by
    rw [Lib.compareBytes]
    by_cases h1 : x < y
    · have hne : x ≠ y := fun e => by subst e; exact absurd h1 (UInt8.lt_irrefl _)
      simp [h1, hne]
    · by_cases h2 : y < x
      · have hne : x ≠ y := fun e => by subst e; exact absurd h2 (UInt8.lt_irrefl _)
        simp [h1, h2, hne]
      · have he : x = y := UInt8.le_antisymm (UInt8.not_lt.1 h2) (UInt8.not_lt.1 h1)
        subst he
        simp [compareBytes_zero a b]
theorem idLt_irrefl (a : Id) : ¬ idLt a a := List.lt_irrefl _
theorem idLt_trans {a b c : Id} (h1 : idLt a b) (h2 : idLt b c) : idLt a c := List.lt_trans h1 h2
theorem idLt_total {a b : Id} (h1 : ¬ idLt a b) (h2 : ¬ idLt b a) : a = b := by
  have h := List.le_antisymm (List.not_lt.1 h2) (List.not_lt.1 h1)
  exact Vector.toList_inj.1 h
theorem cmpId_lt (a b : Id) : cmpId a b < 0 ↔ idLt a b := compareBytes_lt _ _
theorem cmpId_zero (a b : Id) : cmpId a b = 0 ↔ a = b := by rw [cmpId, compareBytes_zero]; exact Vector.toList_inj
theorem idLt_ne {a b : Id} (h : idLt a b) : a ≠ b := fun e => by subst e; exact idLt_irrefl a h
/-! groups -/
def gi (m : UInt8) : List Nat := (List.range 8).filter fun i => decide (m.toNat / 2 ^ i % 2 = 1)
def gstr (i : Nat) : ByteArray := ⟨#[UInt8.ofNat (97 + i)]⟩
abbrev gvL (m : UInt8) : List Value := (gi m).map fun i => .string (gstr i)
theorem gi_lt {m : UInt8} {i : Nat} (h : i ∈ gi m) : i < 8 := List.mem_range.1 (List.mem_filter.1 h).1
theorem gi_len (m : UInt8) : (gi m).length ≤ 8 := by
  have := List.length_filter_le (fun i => decide (m.toNat / 2 ^ i % 2 = 1)) (List.range 8)
  simpa [gi] using this
theorem gstr_inj {i j : Nat} (hi : i < 8) (hj : j < 8) : gstr i = gstr j ↔ i = j := by
  constructor
  · intro h
    simp only [gstr, ByteArray.mk.injEq, Array.mk.injEq, List.cons.injEq, and_true] at h
    have := congrArg UInt8.toNat h
    simp at this
    omega
  · rintro rfl; rfl
theorem mem_gi {m : UInt8} {i : Nat} : i ∈ gi m ↔ i < 8 ∧ m.toNat.testBit i = true := by
  simp only [gi, List.mem_filter, List.mem_range, decide_eq_true_eq, Nat.testBit_eq_decide_div_mod_eq]
theorem sub_and (a b : UInt8) : (∀ i ∈ gi a, i ∈ gi b) ↔ a &&& b = a := by
  rw [← UInt8.toNat_inj, UInt8.toNat_and]
  constructor
  · intro h
    apply Nat.eq_of_testBit_eq
    intro i
    rw [Nat.testBit_and]
    by_cases hi : i < 8
    · cases ha : a.toNat.testBit i with
      | false => simp
      | true => simp [(mem_gi.1 (h i (mem_gi.2 ⟨hi, ha⟩))).2]
    · have ha : a.toNat.testBit i = false := Nat.testBit_lt_two_pow (Nat.lt_of_lt_of_le a.toNat_lt (Nat.pow_le_pow_right (by omega) (by omega : 8 ≤ i)))
      simp [ha]
  · intro h i hi
    obtain ⟨h1, h2⟩ := mem_gi.1 hi
    refine mem_gi.2 ⟨h1, ?_⟩
    rw [← h, Nat.testBit_and] at h2
    simp only [Bool.and_eq_true] at h2
    exact h2.2
theorem bits_and8 (a b : UInt8) : bitsI .and .u8 ((a.toNat : Nat) : Int) ((b.toNat : Nat) : Int) = some (((a &&& b).toNat : Nat) : Int) := by
  have e1 : (BitVec.ofInt IntKind.u8.bits ((a.toNat : Nat) : Int) &&& BitVec.ofInt IntKind.u8.bits ((b.toNat : Nat) : Int)).toNat = (a &&& b).toNat := by
    rw [BitVec.toNat_and]
    simp only [BitVec.ofInt_natCast, BitVec.toNat_ofNat]
    rw [Nat.mod_eq_of_lt (show a.toNat < 2 ^ IntKind.u8.bits from a.toNat_lt), Nat.mod_eq_of_lt (show b.toNat < 2 ^ IntKind.u8.bits from b.toNat_lt), UInt8.toNat_and]
  simp only [bitsI]
  rw [e1, wrap_u8 _ (a &&& b).toNat_lt]
theorem u8_eq (a b : UInt8) : ((a.toNat : Nat) : Int) = ((b.toNat : Nat) : Int) ↔ a = b := by
  rw [← UInt8.toNat_inj]; omega
/-- the slice g reads the names of the groups m -/
def GOK (ν : Heap) (g : GV) (m : UInt8) : Prop := Src ν g.v 1 (gi m).length (gvL m)
theorem GOK.mono {ν ν' : Heap} {g : GV} {m : UInt8} (h : GOK ν g m) (hs : ∀ p ∈ ν, p ∈ ν') : GOK ν' g m := Src.mono h hs
/-! rows -/
def valB (t x : RR) : Prop := x.sup ≠ id0 ∧ x.sup = t.id ∧ t.id ≠ x.id ∧ t.au = x.au ∧ t.date ≤ x.date ∧ t.grp &&& x.grp = t.grp
instance (t x : RR) : Decidable (valB t x) := by unfold valB; infer_instance
def ordLt (a b : RR) : Prop := b.date < a.date ∨ (a.date = b.date ∧ idLt a.id b.id)
instance (a b : RR) : Decidable (ordLt a b) := by unfold ordLt; infer_instance
def outB (x y : RR) : Prop := x.id ≠ y.id ∧ x.sup ≠ id0 ∧ x.sup ≠ x.id ∧ x.sup = y.sup ∧ x.au = y.au ∧ y.grp &&& x.grp = y.grp ∧ ordLt x y
instance (x y : RR) : Decidable (outB x y) := by unfold outB; infer_instance
def sameB (x y : RR) : Prop := x.id ≠ y.id ∧ x.au = y.au ∧ x.grp &&& y.grp = x.grp
instance (x y : RR) : Decidable (sameB x y) := by unfold sameB; infer_instance
def dateB (d : Int) : Prop := 0 ≤ d ∧ d ≤ 105190559
instance (d : Int) : Decidable (dateB d) := by unfold dateB; infer_instance
def ordF (a b : RR) : Int := orF [cmpF b.date a.date, cmpId a.id b.id]
theorem ordF_lt (a b : RR) : ordF a b < 0 ↔ ordLt a b := by
  by_cases h1 : b.date < a.date
  · have hc : cmpF b.date a.date = -1 := by simp [cmpF, h1]
    simp [ordF, orF, hc, ordLt, h1]
  · by_cases h2 : a.date < b.date
    · have hc : cmpF b.date a.date = 1 := by simp [cmpF, h1, h2]
      have hn : ¬ ordLt a b := fun h => h.elim (fun h => absurd h h1) (fun h => by omega)
      simp [ordF, orF, hc, hn]
    · have hc : cmpF b.date a.date = 0 := by simp [cmpF, h1, h2]
      have e : a.date = b.date := by omega
      have ho : ordLt a b ↔ idLt a.id b.id := ⟨fun h => h.elim (fun h => absurd h h1) And.right, fun h => .inr ⟨e, h⟩⟩
      rw [ho, ← cmpId_lt]
      by_cases h3 : cmpId a.id b.id = 0 <;> simp [ordF, orF, hc, h3]
instance (x y : Int) : BuildsS Try.prog 66 2 [(0, I x), (1, I y)] 3 #[I x, I y] := BuildsS.two Try.underlying66 Try.sizeOf3 Try.zeroValue3 inferInstance inferInstance
instance (x : Id) : BuildsS Try.prog 26 1 [(0, idK x)] 38 (idC x) := BuildsS.one Try.underlying26 Try.sizeOf38 rfl rfl Try.zeroValue38 rfl (idC_size x)
instance (x : Id) : BuildsS Try.prog 34 1 [(0, idK x)] 37 (idC x) := BuildsS.one Try.underlying34 Try.sizeOf37 rfl rfl Try.zeroValue37 rfl (idC_size x)
instance (r : RR) (g : GV) : BuildsS Try.prog 23 1 [(0, .agg (rowC r g))] 43 (rowC r g) := BuildsS.one Try.underlying23 Try.sizeOf43 rfl rfl Try.zeroValue43 rfl (rowC_size r g)
instance (s : ByteArray) : BuildsS Try.prog 41 1 [(0, .string s)] 9 #[.string s] := BuildsS.one Try.underlying41 Try.sizeOf9 rfl rfl Try.zeroValue9 rfl rfl
instance : BuildsS Try.prog 26 0 [] 38 #[] := BuildsS.zero Try.underlying26 Try.sizeOf38
instance : BuildsS Try.prog 34 0 [] 37 #[] := BuildsS.zero Try.underlying34 Try.sizeOf37
instance : BuildsS Try.prog 41 0 [] 9 #[] := BuildsS.zero Try.underlying41 Try.sizeOf9
instance : Inhabited Id := ⟨id0⟩
theorem bt {p : Prop} [Decidable p] (h : p) : Value.bool true = .bool (decide p) := by simp [h]
theorem bf {p : Prop} [Decidable p] (h : ¬ p) : Value.bool false = .bool (decide p) := by simp [h]
/-! strings -/
instance : Scalar Try.prog 9 := ⟨Try.isAgg9⟩
instance : ScalarS Try.prog 9 := ⟨Try.sizeOf9⟩
instance (s : ByteArray) : CellsOf (.string s) #[.string s] := ⟨rfl⟩
instance (s : ByteArray) (xs : List ByteArray) : Decidable (s ∈ xs) := @List.instDecidableMemOfLawfulBEq _ instBEqOfDecidableEq _ s xs
instance (xs ys : List ByteArray) : Decidable (∀ s ∈ ys, s ∈ xs) := List.decidableBAll (fun s => s ∈ xs) ys
section
variable {P : Program} {σ : Slots} {φ : Heap} {dst : Option Tmp} {ty : TypeId} {pos : String} {aft : Array Edge} {g : Option (Nat × Bool)}
theorem ba_eq (a b : ByteArray) : (a.toList == b.toList) = decide (a = b) := by
  rw [Bool.eq_iff_iff]
  simp only [beq_iff_eq, decide_eq_true_eq, ByteArray.toList_eq]
  constructor
  · intro h; exact ByteArray.ext (Array.toList_inj.1 h)
  · rintro rfl; rfl
theorem rd_streq {T U : TypeId} {x y : Operand} {a b : ByteArray} (hx : ev σ x = some (.string a)) (hy : ev σ y = some (.string b)) : Rd P σ φ ⟨dst, .binOp .eql T x y U, ty, pos, aft, g⟩ (.bool (decide (a = b))) :=
  rd_bin hx hy fun w => by
    simp [eqGuard, binOp, Op.stringOp, ba_eq]
theorem rd_strne {T U : TypeId} {x y : Operand} {a b : ByteArray} (hx : ev σ x = some (.string a)) (hy : ev σ y = some (.string b)) : Rd P σ φ ⟨dst, .binOp .neq T x y U, ty, pos, aft, g⟩ (.bool (decide (a ≠ b))) :=
  rd_bin hx hy fun w => by
    simp [eqGuard, binOp, Op.stringOp, ba_eq]
end
def idxF (s : ByteArray) : List ByteArray → Nat → Int
  | [], _ => -1
  | x :: r, k => if s = x then k else idxF s r (k + 1)
theorem idxF_mem {s : ByteArray} : ∀ {xs : List ByteArray} {k : Nat}, 0 ≤ idxF s xs k ↔ s ∈ xs
  | [], k => by simp [idxF]
  | x :: r, k => by
    by_cases h : s = x
    · simp [idxF, h]
    · simp [idxF, h, idxF_mem (xs := r) (k := k + 1)]
def names (m : UInt8) : List ByteArray := (gi m).map gstr
theorem names_len (m : UInt8) : (names m).length ≤ 8 := by simp only [names, List.length_map]; exact gi_len m
theorem names_lt (m : UInt8) : (names m).length < 1048576 := by have := names_len m; omega
theorem GOK.names {ν : Heap} {g : GV} {m : UInt8} (h : GOK ν g m) : Src ν g.v 1 (names m).length ((names m).map Value.string) := by
  simpa [GOK, Go.Proofs.Ytaagmgpfpaanlaa.names, gvL, List.map_map, Function.comp_def] using h
theorem names_sub (a b : UInt8) : (∀ s ∈ names a, s ∈ names b) ↔ a &&& b = a := by
  rw [← sub_and]
  simp only [names, List.mem_map]
  constructor
  · intro h i hi
    obtain ⟨k, hk, hks⟩ := h _ ⟨i, hi, rfl⟩
    rw [(gstr_inj (gi_lt hk) (gi_lt hi)).1 hks] at hk
    exact hk
  · rintro h s ⟨i, hi, rfl⟩
    exact ⟨i, h i hi, rfl⟩
end Go.Proofs.Ytaagmgpfpaanlaa
