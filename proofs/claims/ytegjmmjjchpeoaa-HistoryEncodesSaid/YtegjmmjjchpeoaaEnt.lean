/- Entries as data: their cells, how they are read, built and stored. No conditions. -/
import Derived.Test.YtegjmmjjchpeoaaInst
import Derived.Test.YtegjmmjjchpeoaaEx
namespace Go.Proofs.Ytegjmmjjchpeoaa
open Go Go.RowKit Go.Sx


abbrev Id := Vector UInt8 32
def u8v (b : UInt8) : Value := .int .u8 b.toNat
abbrev I (n : Int) : Value := .int .i64 n
def idC (x : Id) : Array Value := x.toArray.map u8v
theorem idC_size (x : Id) : (idC x).size = 32 := by simp [idC]
structure Ent where
  id : Id
  arr : Int
  date : Int
  st : Int
  perm : Bool
  deriving DecidableEq
def entC (x : Ent) : Array Value := idC x.id ++ #[I x.arr, I x.date, I x.st, .bool x.perm]
theorem entC_size (x : Ent) : (entC x).size = 36 := by simp [entC, idC_size]
theorem idC_one (x : Id) : ∀ u ∈ (idC x).toList, u.oneCell' = true := by
  intro u hu
  simp [idC] at hu
  obtain ⟨b, _, rfl⟩ := hu
  rfl
theorem entC_one (x : Ent) : ∀ u ∈ (entC x).toList, u.oneCell' = true := by
  intro u hu
  simp only [entC, Array.toList_append, List.mem_append] at hu
  rcases hu with hu | hu
  · exact idC_one _ u hu
  · simp at hu
    rcases hu with rfl | rfl | rfl | rfl <;> rfl
theorem entC_id (x : Ent) (j : Nat) (hj : j < 32) : (entC x)[0 + j]? = (idC x.id)[j]? := by
  rw [Nat.zero_add, entC, Array.getElem?_append_left (by rw [idC_size]; exact hj)]
theorem entC_at (x : Ent) (j : Nat) : (entC x)[32 + j]? = (#[I x.arr, I x.date, I x.st, .bool x.perm] : Array Value)[j]? := by
  rw [entC, Array.getElem?_append_right (by rw [idC_size]; omega), idC_size]
  congr 1
  omega
instance (x : Ent) : GetAt (entC x) 32 (I x.arr) := ⟨entC_at x 0⟩
instance (x : Ent) : GetAt (entC x) 33 (I x.date) := ⟨entC_at x 1⟩
instance (x : Ent) : GetAt (entC x) 34 (I x.st) := ⟨entC_at x 2⟩
instance (x : Ent) : GetAt (entC x) 35 (.bool x.perm) := ⟨entC_at x 3⟩
instance (x : Ent) : ReadsAt Try.prog 22 (entC x) 0 (.agg (idC x.id)) := ReadsAt.agg (k := 32) (idC_size _) (entC_id x)
instance (x : Ent) : ReadsAt Try.prog 27 (entC x) 0 (.agg (idC x.id)) := ReadsAt.agg (k := 32) (idC_size _) (entC_id x)
instance (x : Ent) : ReadsAt Try.prog 24 (entC x) 0 (.agg (entC x)) := ReadsAt.agg (k := 36) (entC_size _) (fun j _ => by rw [Nat.zero_add])
instance (x : Ent) : ReadsAt Try.prog 29 (entC x) 0 (.agg (entC x)) := ReadsAt.agg (k := 36) (entC_size _) (fun j _ => by rw [Nat.zero_add])
instance (x : Id) : ReadsAt Try.prog 22 (idC x) 0 (.agg (idC x)) := ReadsAt.agg (k := 32) (idC_size _) (fun j _ => by rw [Nat.zero_add])
instance (x : Id) : ReadsAt Try.prog 27 (idC x) 0 (.agg (idC x)) := ReadsAt.agg (k := 32) (idC_size _) (fun j _ => by rw [Nat.zero_add])
instance (x y : Ent) : WritesAt Try.prog 24 (entC x) 0 (.agg (entC y)) (entC y) := WritesAt.whole Try.sizeOf24 (entC_size _) (entC_size _) (entC_one _)
instance (x y : Ent) : WritesAt Try.prog 29 (entC x) 0 (.agg (entC y)) (entC y) := WritesAt.whole Try.sizeOf29 (entC_size _) (entC_size _) (entC_one _)
instance (x y : Id) : WritesAt Try.prog 22 (idC x) 0 (.agg (idC y)) (idC y) := WritesAt.whole Try.sizeOf22 (idC_size _) (idC_size _) (idC_one _)
instance (x y : Id) : WritesAt Try.prog 27 (idC x) 0 (.agg (idC y)) (idC y) := WritesAt.whole Try.sizeOf27 (idC_size _) (idC_size _) (idC_one _)
def id0 : Id := Vector.replicate 32 0
def ent0 : Ent := ⟨id0, 0, 0, 0, false⟩
theorem idC0 : idC id0 = Array.replicate 32 (.int .u8 0) := by simp [idC, id0, u8v]
instance : ZeroOf Try.prog 22 (idC id0) := ⟨_, Try.zeroValue22, by rw [idC0]; rfl⟩
instance : ZeroOf Try.prog 27 (idC id0) := ⟨_, Try.zeroValue27, by rw [idC0]; rfl⟩
instance : ZeroOf Try.prog 24 (entC ent0) := ⟨_, Try.zeroValue24, by simp only [entC, ent0]; rw [idC0]; rfl⟩
instance : ZeroOf Try.prog 29 (entC ent0) := ⟨_, Try.zeroValue29, by simp only [entC, ent0]; rw [idC0]; rfl⟩


theorem zero29 (w : World) : (zeroValue 29).run Try.prog w = .ok (.agg (entC ent0)) w := by rw [Try.zeroValue29]; simp only [entC, ent0]; rw [idC0]; rfl
/-! literals -/
theorem sp4 (id : Id) (b : Array Value) : splice (idC id0 ++ b) 0 (idC id) = idC id ++ b := splice_left _ _ _ (by rw [idC_size, idC_size])
theorem sp1 (id : Id) (b : Array Value) (k : Nat) (v : Value) : splice (idC id ++ b) (32 + k) #[v] = idC id ++ splice b k #[v] := splice_right _ _ _ k _ (by rw [idC_size])
theorem entC0 : entC ent0 = idC id0 ++ #[I 0, I 0, I 0, .bool false] := rfl
instance (x : Ent) (n : Int) : SetAt (entC x) 32 (I n) (entC { x with arr := n }) := ⟨by simp [entC_size], by
  show entC { x with arr := n } = splice (idC x.id ++ #[I x.arr, I x.date, I x.st, .bool x.perm]) (32 + 0) #[I n]
  rw [sp1]; rfl⟩
instance (x : Ent) (n : Int) : SetAt (entC x) 33 (I n) (entC { x with date := n }) := ⟨by simp [entC_size], by
  show entC { x with date := n } = splice (idC x.id ++ #[I x.arr, I x.date, I x.st, .bool x.perm]) (32 + 1) #[I n]
  rw [sp1]; rfl⟩
instance (x : Ent) (n : Int) : SetAt (entC x) 34 (I n) (entC { x with st := n }) := ⟨by simp [entC_size], by
  show entC { x with st := n } = splice (idC x.id ++ #[I x.arr, I x.date, I x.st, .bool x.perm]) (32 + 2) #[I n]
  rw [sp1]; rfl⟩
instance (x : Ent) (n : Bool) : SetAt (entC x) 35 (.bool n) (entC { x with perm := n }) := ⟨by simp [entC_size], by
  show entC { x with perm := n } = splice (idC x.id ++ #[I x.arr, I x.date, I x.st, .bool x.perm]) (32 + 3) #[.bool n]
  rw [sp1]; rfl⟩
theorem build_fill (id : Id) (a d s : Int) (p : Bool) : fillS (entC ent0) [(0, idC id), (32, #[I a]), (33, #[I d]), (34, #[I s]), (35, #[.bool p])] = entC ⟨id, a, d, s, p⟩ := by
  rw [entC0]
  simp only [fillS]
  rw [sp4 _ _, sp1 _ _ 0, sp1 _ _ 1, sp1 _ _ 2, sp1 _ _ 3]
  rfl
theorem build_fill4 (id : Id) (a d s : Int) : fillS (entC ent0) [(0, idC id), (32, #[I a]), (33, #[I d]), (34, #[I s])] = entC ⟨id, a, d, s, false⟩ := by
  rw [entC0]
  simp only [fillS]
  rw [sp4 _ _, sp1 _ _ 0, sp1 _ _ 1, sp1 _ _ 2]
  rfl
instance (id : Id) (a d s : Int) (p : Bool) : Builds Try.prog 29 [(0, .agg (idC id)), (1, I a), (2, I d), (3, I s), (4, .bool p)] (entC ⟨id, a, d, s, p⟩) :=
  Builds.struct inferInstance Try.underlying29 (by kernel_rfl) #[(0, 32), (32, 1), (33, 1), (34, 1), (35, 1)] (by kernel_rfl) _ (by simp [placed, Value.cells, idC_size]) (by simp [entC_size, idC_size]) (build_fill id a d s p)
instance (id : Id) (a d s : Int) (p : Bool) : Builds Try.prog 24 [(0, .agg (idC id)), (1, I a), (2, I d), (3, I s), (4, .bool p)] (entC ⟨id, a, d, s, p⟩) :=
  Builds.struct inferInstance Try.underlying24 (by kernel_rfl) #[(0, 32), (32, 1), (33, 1), (34, 1), (35, 1)] (by kernel_rfl) _ (by simp [placed, Value.cells, idC_size]) (by simp [entC_size, idC_size]) (build_fill id a d s p)
instance (id : Id) (a d s : Int) : Builds Try.prog 29 [(0, .agg (idC id)), (1, I a), (2, I d), (3, I s)] (entC ⟨id, a, d, s, false⟩) :=
  Builds.struct inferInstance Try.underlying29 (by kernel_rfl) #[(0, 32), (32, 1), (33, 1), (34, 1), (35, 1)] (by kernel_rfl) _ (by simp [placed, Value.cells, idC_size]) (by simp [entC_size, idC_size]) (build_fill4 id a d s)
instance : ZeroOf Try.prog 86 #[.map none, I 0] := ⟨_, Try.zeroValue86, rfl⟩
instance (r : Option Nat) : Builds Try.prog 86 [(0, .map r)] #[.map r, I 0] :=
  Builds.struct inferInstance Try.underlying86 (by kernel_rfl) #[(0, 1), (1, 1)] (by kernel_rfl) [(0, #[.map r])] rfl (by simp) rfl
theorem idC_at (x : Id) (j : Nat) (hj : j < 32) : (idC x)[j]? = some (u8v x[j]) := by
  simp [idC, hj]
theorem idC_set (x : Id) (j : Nat) (hj : j < 32) (b : UInt8) : splice (idC x) j #[u8v b] = idC (x.set j b) := by
  apply Array.ext'
  simp only [splice, idC, Vector.toArray_set, Array.map_set, Array.toList_set]
  have hs : (Array.map u8v x.toArray).toList.length = 32 := by simp
  rw [List.set_eq_take_append_cons_drop, if_pos (by rw [hs]; exact hj)]
  simp
instance (b : UInt8) : Builds Try.prog 27 [(0, u8v b)] (idC (id0.set 0 b)) :=
  Builds.array (k := 1) inferInstance Try.underlying27 Try.sizeOf5 [(0, #[u8v b])] rfl (by simp [idC_size]) (idC_set id0 0 (by omega) b)
instance : Builds Try.prog 27 [(0, .int .u8 1)] (idC (id0.set 0 1)) := (inferInstance : Builds Try.prog 27 [(0, u8v 1)] (idC (id0.set 0 1)))

/-! keys -/
abbrev idK (x : Id) : Value := .agg (idC x)
abbrev entK (x : Ent) : Value := .agg (entC x)
theorem idC_inj {x y : Id} (h : idC x = idC y) : x = y := by
  apply Vector.ext
  intro i hi
  have h1 := idC_at x i hi
  have h2 := idC_at y i hi
  rw [h, h2] at h1
  simp only [Option.some.injEq, u8v, Value.int.injEq, true_and] at h1
  have h3 : y[i].toNat = x[i].toNat := by omega
  exact (UInt8.toNat_inj.1 h3).symm
theorem laidT : laidOutB Try.prog = true := by kernel_rfl
instance : KeyEnc Try.prog 27 idK := ⟨Maps.Keyed.of_law (deep_law_gate laidT (by decide +kernel) (by decide +kernel) (by kernel_rfl) (by rw [Try.underlying27])),
  fun a => keyOf_u8 Try.underlying27 Try.underlying5 (by kernel_rfl) (by kernel_rfl) (by kernel_rfl) (by decide +kernel) _ (idC_size a) (fun i hi => ⟨a[i], idC_at a i hi⟩),
  fun _ _ h => idC_inj (by simpa using h)⟩
theorem eq_id (T : TypeId) (hT : Try.prog.underlying T = some (.array 32 5)) (a b : Id) (w : World) : (Op.equalIn 10000 T (.agg (idC a)) (.agg (idC b))).run Try.prog w = .ok (decide (a = b)) w := by
  have h1 : ∀ x : Id, ∀ i, i < 32 → (idC x)[i]? = some (.int .u8 (if h : i < 32 then (x[i].toNat : Int) else 0)) := fun x i hi => by
    rw [dif_pos hi]; exact idC_at x i hi
  have h2 : 10000 = 9998 + 2 := by omega
  have h3 := fun N hN => run_equalIn_bytes (P := Try.prog) (kd := .u8) w N 9998 hN T 5 32 (idC a) (idC b) _ _ hT Try.sizeOf5 Try.isAgg5 Try.underlying5 (h1 a) (h1 b)
  have h4 := h3 _ h2
  refine h4.trans ?_
  refine congrArg (fun x => Result.ok x w) ?_
  rw [decide_eq_decide]
  constructor
  · intro h
    apply Vector.ext
    intro i hi
    have := h i hi
    simp only [hi, dif_pos] at this
    exact UInt8.toNat_inj.1 (by omega)
  · rintro rfl i hi; rfl
end Go.Proofs.Ytegjmmjjchpeoaa
