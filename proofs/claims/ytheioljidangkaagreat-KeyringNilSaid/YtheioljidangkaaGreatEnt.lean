/- Identities, authors, keys, roll-overs and their cells. No conditions. -/
import Derived.Test.YtheioljidangkaaGreatSch
import Derived.Test.YtheioljidangkaaGreatEx
import Derived.Test.YtheioljidangkaaGreatZx
import Derived.Laws.StructEq
namespace Go.Proofs.YtheioljidangkaaGreat
open Go Go.RowKit Go.Sx
set_option linter.unusedVariables false
set_option linter.unusedSimpArgs false
abbrev Id := Vector UInt8 32
abbrev Au := Vector UInt8 16
def idC {n : Nat} (x : Vector UInt8 n) : Array Value := x.toArray.map u8v
theorem idC_size {n : Nat} (x : Vector UInt8 n) : (idC x).size = n := by simp [idC]
theorem idC_one {n : Nat} (x : Vector UInt8 n) : ∀ u ∈ (idC x).toList, u.oneCell' = true := by
  intro u hu
  simp [idC] at hu
  obtain ⟨b, _, rfl⟩ := hu
  rfl
theorem idC_at {n : Nat} (x : Vector UInt8 n) (j : Nat) (hj : j < n) : (idC x)[j]? = some (u8v x[j]) := by simp [idC, hj]
theorem u8v_inj {a b : UInt8} (h : u8v a = u8v b) : a = b := by
  simp only [Value.int.injEq, true_and] at h
  exact UInt8.toNat_inj.1 (by omega)
theorem idC_inj {n : Nat} {x y : Vector UInt8 n} (h : idC x = idC y) : x = y := by
  apply Vector.ext
  intro i hi
  have h1 := idC_at x i hi
  have h2 := idC_at y i hi
  rw [h, h2] at h1
  exact (u8v_inj (by simpa using h1)).symm
def zv (n : Nat) : Vector UInt8 n := Vector.replicate n 0
abbrev id0 : Id := zv 32
abbrev au0 : Au := zv 16
theorem idC0 (n : Nat) : idC (zv n) = Array.replicate n (.int .u8 0) := by simp [idC, zv, u8v]
theorem idC_set {n : Nat} (x : Vector UInt8 n) (j : Nat) (hj : j < n) (b : UInt8) : splice (idC x) j #[u8v b] = idC (x.set j b) := by
  apply Array.ext'
  simp only [splice, idC, Vector.toArray_set, Array.map_set, Array.toList_set]
  have hs : (Array.map u8v x.toArray).toList.length = n := by simp
  rw [List.set_eq_take_append_cons_drop, if_pos (by rw [hs]; exact hj)]
  simp
abbrev idK {n : Nat} (x : Vector UInt8 n) : Value := .agg (idC x)
structure Pub where
  h : Int
  root : Au
  deriving DecidableEq
structure Pl where
  au : Au
  n : Int
  p : Pub
  deriving DecidableEq
/-- a roll-over -/
structure RK where
  id : Id
  au : Au
  n : Int
  p : Pub
  leaf : Int
  q : Pub
  deriving DecidableEq
/-- a key of a chain -/
structure KK where
  n : Int
  p : Pub
  lim : Int
  next : Id
  deriving DecidableEq
/-- a move of the laws -/
structure MV where
  first : UInt8
  number : UInt8
  pub : UInt8
  new : UInt8
  leaf : UInt8
  id : UInt8
  spoil : UInt8
/-- the parts of a content and of a command that matter -/
structure CT where
  au : Au
  n : Int
  p : Pub
  leaf : Int
  body : ByteArray
structure CM where
  kind : Int
  n : Int
  p : Pub
theorem sR (A B vs : Array Value) (k m : Nat) (h : m = A.size + k) : splice (A ++ B) m vs = A ++ splice B k vs := splice_right A B vs k m h
theorem sL (A B vs : Array Value) (h : vs.size = A.size) : splice (A ++ B) 0 vs = vs ++ B := splice_left A B vs h
theorem eq_vecN {n : Nat} (N d : Nat) (hN : N = d + 2) (T : TypeId) (hT : Tryz.prog.underlying T = some (.array n 5)) (a b : Vector UInt8 n) (w : World) : (Op.equalIn N T (.agg (idC a)) (.agg (idC b))).run Tryz.prog w = .ok (decide (a = b)) w := by
  have h1 : ∀ x : Vector UInt8 n, ∀ i, i < n → (idC x)[i]? = some (.int .u8 (if h : i < n then (x[i].toNat : Int) else 0)) := fun x i hi => by
    rw [dif_pos hi]; exact idC_at x i hi
  have h4 := run_equalIn_bytes (P := Tryz.prog) (kd := .u8) w N d hN T 5 n (idC a) (idC b) _ _ hT Tryz.sizeOf5 Tryz.isAgg5 Tryz.underlying5 (h1 a) (h1 b)
  refine h4.trans ?_
  refine congrArg (fun x => Result.ok x w) ?_
  rw [decide_eq_decide]
  constructor
  · intro h
    apply Vector.ext
    intro i hi
    have := h i hi
    simp only [hi, dif_pos] at this
    exact UInt8.toNat_inj.1 (by omega)
  · rintro rfl i hi; rfl
section
variable {n : Nat} {σ : Slots} {φ : Heap} {dst : Option Tmp} {ty : TypeId} {pos : String} {aft : Array Edge} {g : Option (Nat × Bool)}
theorem rd_eqid {T U : TypeId} {x y : Operand} {a b : Vector UInt8 n} (hx : ev σ x = some (.agg (idC a))) (hy : ev σ y = some (.agg (idC b))) (hT : Tryz.prog.underlying T = some (.array n 5)) (hm : Tryz.prog.eqGuardType Tryz.prog.depth T = false) : Rd Tryz.prog σ φ ⟨dst, .binOp .eql T x y U, ty, pos, aft, g⟩ (.bool (decide (a = b))) :=
  rd_eqagg hx hy hm (fun w => eq_vecN 10000 9998 (by omega) T hT a b w) rfl
theorem rd_neid {T U : TypeId} {x y : Operand} {a b : Vector UInt8 n} (hx : ev σ x = some (.agg (idC a))) (hy : ev σ y = some (.agg (idC b))) (hT : Tryz.prog.underlying T = some (.array n 5)) (hm : Tryz.prog.eqGuardType Tryz.prog.depth T = false) : Rd Tryz.prog σ φ ⟨dst, .binOp .neq T x y U, ty, pos, aft, g⟩ (.bool (decide (a ≠ b))) :=
  rd_eqagg hx hy hm (fun w => eq_vecN 10000 9998 (by omega) T hT a b w) (by simp)
end
theorem part_in {T : TypeId} {n : Nat} (hA : ∀ w, (isAgg T).run Tryz.prog w = .ok true w) (hS : ∀ w, (sizeOf T).run Tryz.prog w = .ok n w) {cs sub : Array Value} {off : Nat} (hn : sub.size = n) (h : ∀ j, j < n → cs[off + j]? = sub[j]?) (w : World) : (part T cs off).run Tryz.prog w = .ok (.agg sub) w := by
  have e : cs.extract off (off + n) = sub := by
    apply Array.ext_getElem?
    intro j
    rw [Array.getElem?_extract]
    by_cases hj : j < n
    · rw [if_pos (by
        have := h j hj
        rw [Array.getElem?_eq_getElem (xs := sub) (by omega)] at this
        have h1 := (Array.getElem?_eq_some_iff.1 this).1
        omega), h j hj]
    · rw [if_neg (by omega), Array.getElem?_eq_none (by omega)]
  simp [part, hA, hS, e]
theorem part_at {T : TypeId} {i : Nat} {v : Value} (hA : ∀ w, (isAgg T).run Tryz.prog w = .ok false w) {cs : Array Value} (h : GetAt cs i v) (w : World) : (part T cs i).run Tryz.prog w = .ok v w := by
  simp [part, hA, h.go]
theorem eqFields_step {d : Nat} {xs ys : Array Value} {f : Field} {fs : List Field} {w : World} {u v : Value} {b r : Bool} (hn : f.name ≠ "_") (h1 : (part f.type xs f.offset).run Tryz.prog w = .ok u w) (h2 : (part f.type ys f.offset).run Tryz.prog w = .ok v w)
    (h3 : (Op.equalIn d f.type u v).run Tryz.prog w = .ok b w) (h4 : (Op.eqFields d xs ys fs).run Tryz.prog w = .ok r w) : (Op.eqFields d xs ys (f :: fs)).run Tryz.prog w = .ok (b && r) w := by
  simp only [Op.eqFields, hn, ne_eq, not_false_eq_true, if_true, Sem.run_bind, h1, h2, h3, Result.andThen_ok]
  cases b
  · simp
  · simp [h4]
theorem eq_intN (d : Nat) (a b : Int) (w : World) : (Op.equalIn (d + 1) 3 (I a) (I b)).run Tryz.prog w = .ok (a == b) w := run_equalIn_int w d 3 .i64 .i64 a b Tryz.underlying3
/-- a comparison of two structs, field by field -/
theorem eq_struct {T : TypeId} {fs : List Field} (hU : Tryz.prog.underlying T = some (.struct fs.toArray)) (hp : Tryz.prog.stoodInHeld T = false) (d : Nat) (xs ys : Array Value) (w : World) {b : Bool}
    (h : (Op.eqFields d xs ys fs).run Tryz.prog w = .ok b w) : (Op.equalIn (d + 1) T (.agg xs) (.agg ys)).run Tryz.prog w = .ok b w := by
  have hF : Tryz.prog.fieldsOf T = fs.toArray := by simp [Program.fieldsOf, hU]
  have e := run_equalIn_struct (P := Tryz.prog) w d T xs ys (by rw [hF]; exact hU) hp
  refine e.trans ?_
  rw [hF]
  exact h
theorem ga {cs : Array Value} {i : Nat} {v : Value} (h : cs[i]? = some v) : GetAt cs i v := ⟨h⟩
end Go.Proofs.YtheioljidangkaaGreat
