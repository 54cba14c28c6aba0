/- Equality of entries. No conditions. -/
import Derived.Test.YtegjmmjjchpeoaaRel
import Derived.Laws.StructEq
namespace Go.Proofs.Ytegjmmjjchpeoaa
open Go Go.RowKit Go.Sx
theorem run_part_id {T : TypeId} (hA : ∀ w, (isAgg T).run Try.prog w = .ok true w) (hS : ∀ w, (sizeOf T).run Try.prog w = .ok 32 w) (x : Ent) (w : World) : (part T (entC x) 0).run Try.prog w = .ok (.agg (idC x.id)) w := by
  have e : (entC x).extract 0 32 = idC x.id := by
    have h := @Array.extract_append_left Value (idC x.id) #[I x.arr, I x.date, I x.st, .bool x.perm]
    rw [idC_size] at h
    rw [entC, h, ← idC_size x.id]
    simp
  simp [part, hA, hS, e]
theorem run_part_at {T : TypeId} {i : Nat} {v : Value} (hA : ∀ w, (isAgg T).run Try.prog w = .ok false w) {cs : Array Value} (h : GetAt cs i v) (w : World) : (part T cs i).run Try.prog w = .ok v w := by
  simp [part, hA, h.go]
theorem ent_eq_iff (x y : Ent) : x = y ↔ x.id = y.id ∧ x.arr = y.arr ∧ x.date = y.date ∧ x.st = y.st ∧ x.perm = y.perm := by
  cases x; cases y; simp
/-- the equality of a struct's fields, one by one -/
theorem run_eqFields_step {d : Nat} {xs ys : Array Value} {f : Field} {fs : List Field} {w : World} {u v : Value} {b r : Bool} (hn : f.name ≠ "_") (h1 : (part f.type xs f.offset).run Try.prog w = .ok u w) (h2 : (part f.type ys f.offset).run Try.prog w = .ok v w)
    (h3 : (Op.equalIn d f.type u v).run Try.prog w = .ok b w) (h4 : (Op.eqFields d xs ys fs).run Try.prog w = .ok r w) : (Op.eqFields d xs ys (f :: fs)).run Try.prog w = .ok (b && r) w := by
  simp only [Op.eqFields, hn, ne_eq, not_false_eq_true, if_true, Sem.run_bind, h1, h2, h3, Result.andThen_ok]
  cases b
  · simp
  · simp [h4]
theorem eq_idN (N d : Nat) (hN : N = d + 2) (T : TypeId) (hT : Try.prog.underlying T = some (.array 32 5)) (a b : Id) (w : World) : (Op.equalIn N T (.agg (idC a)) (.agg (idC b))).run Try.prog w = .ok (decide (a = b)) w := by
  have h1 : ∀ x : Id, ∀ i, i < 32 → (idC x)[i]? = some (.int .u8 (if h : i < 32 then (x[i].toNat : Int) else 0)) := fun x i hi => by
    rw [dif_pos hi]; exact idC_at x i hi
  have h4 := run_equalIn_bytes (P := Try.prog) (kd := .u8) w N d hN T 5 32 (idC a) (idC b) _ _ hT Try.sizeOf5 Try.isAgg5 Try.underlying5 (h1 a) (h1 b)
  refine h4.trans ?_
  refine congrArg (fun x => Result.ok x w) ?_
  rw [decide_eq_decide]
  constructor
  · intro h
    apply Vector.ext
    intro i hi
    have := h i hi
    simp only [hi, dif_pos] at this
    exact UInt8.toNat_inj.1 (by omega)
  · rintro rfl i hi; rfl
theorem eq_entT (T TI : TypeId) (f0 f1 f2 f3 f4 : Field) (hU : Try.prog.underlying T = some (.struct #[f0, f1, f2, f3, f4])) (hp : Try.prog.stoodInHeld T = false) (hAI : ∀ w, (isAgg TI).run Try.prog w = .ok true w) (hSI : ∀ w, (sizeOf TI).run Try.prog w = .ok 32 w) (hUI : Try.prog.underlying TI = some (.array 32 5))
    (h0 : f0.name ≠ "_" ∧ f0.type = TI ∧ f0.offset = 0) (h1 : f1.name ≠ "_" ∧ f1.type = 3 ∧ f1.offset = 32) (h2 : f2.name ≠ "_" ∧ f2.type = 3 ∧ f2.offset = 33) (h3 : f3.name ≠ "_" ∧ f3.type = 3 ∧ f3.offset = 34) (h4 : f4.name ≠ "_" ∧ f4.type = 4 ∧ f4.offset = 35)
    (x y : Ent) (w : World) : (Op.equalIn 10000 T (.agg (entC x)) (.agg (entC y))).run Try.prog w = .ok (decide (x = y)) w := by
  have hF : Try.prog.fieldsOf T = #[f0, f1, f2, f3, f4] := by simp [Program.fieldsOf, hU]
  have e := run_equalIn_struct (P := Try.prog) w 9999 T (entC x) (entC y) (by rw [hF]; exact hU) hp
  refine e.trans ?_
  rw [hF]
  have hi : ∀ (a b : Int), (Op.equalIn 9999 3 (I a) (I b)).run Try.prog w = .ok (a == b) w := fun a b => run_equalIn_int w 9998 3 .i64 .i64 a b Try.underlying3
  have hb : ∀ (a b : Bool), (Op.equalIn 9999 4 (.bool a) (.bool b)).run Try.prog w = .ok (a == b) w := fun a b => run_equalIn_bool w 9998 4 a b Try.underlying4
  have p : ∀ (z : Ent), (part f0.type (entC z) f0.offset).run Try.prog w = .ok (.agg (idC z.id)) w := fun z => by rw [h0.2.1, h0.2.2]; exact run_part_id hAI hSI z w
  have s := run_eqFields_step (d := 9999) (w := w) h0.1 (p x) (p y) (by rw [h0.2.1]; exact eq_idN 9999 9997 (by omega) TI hUI x.id y.id w)
    (run_eqFields_step h1.1 (by rw [h1.2.1, h1.2.2]; exact run_part_at Try.isAgg3 (inferInstance : GetAt (entC x) 32 _) w) (by rw [h1.2.1, h1.2.2]; exact run_part_at Try.isAgg3 (inferInstance : GetAt (entC y) 32 _) w) (by rw [h1.2.1]; exact hi _ _)
    (run_eqFields_step h2.1 (by rw [h2.2.1, h2.2.2]; exact run_part_at Try.isAgg3 (inferInstance : GetAt (entC x) 33 _) w) (by rw [h2.2.1, h2.2.2]; exact run_part_at Try.isAgg3 (inferInstance : GetAt (entC y) 33 _) w) (by rw [h2.2.1]; exact hi _ _)
    (run_eqFields_step h3.1 (by rw [h3.2.1, h3.2.2]; exact run_part_at Try.isAgg3 (inferInstance : GetAt (entC x) 34 _) w) (by rw [h3.2.1, h3.2.2]; exact run_part_at Try.isAgg3 (inferInstance : GetAt (entC y) 34 _) w) (by rw [h3.2.1]; exact hi _ _)
    (run_eqFields_step h4.1 (by rw [h4.2.1, h4.2.2]; exact run_part_at Try.isAgg4 (inferInstance : GetAt (entC x) 35 _) w) (by rw [h4.2.1, h4.2.2]; exact run_part_at Try.isAgg4 (inferInstance : GetAt (entC y) 35 _) w) (by rw [h4.2.1]; exact hb _ _)
    (by simp [Op.eqFields] : (Op.eqFields 9999 (entC x) (entC y) []).run Try.prog w = .ok true w)))))
  refine s.trans (congrArg (fun b => Result.ok b w) ?_)
  rw [Bool.eq_iff_iff]
  simp [ent_eq_iff x y]
theorem eq_ent24 (x y : Ent) (w : World) : (Op.equalIn 10000 24 (.agg (entC x)) (.agg (entC y))).run Try.prog w = .ok (decide (x = y)) w :=
  eq_entT 24 22 _ _ _ _ _ Try.underlying24 (by kernel_rfl) (fun w => Agg.go w) (fun w => Agg.sz w) Try.underlying22 ⟨by decide, rfl, rfl⟩ ⟨by decide, rfl, rfl⟩ ⟨by decide, rfl, rfl⟩ ⟨by decide, rfl, rfl⟩ ⟨by decide, rfl, rfl⟩ x y w
theorem eq_ent29 (x y : Ent) (w : World) : (Op.equalIn 10000 29 (.agg (entC x)) (.agg (entC y))).run Try.prog w = .ok (decide (x = y)) w :=
  eq_entT 29 27 _ _ _ _ _ Try.underlying29 (by kernel_rfl) (fun w => Agg.go w) (fun w => Agg.sz w) Try.underlying27 ⟨by decide, rfl, rfl⟩ ⟨by decide, rfl, rfl⟩ ⟨by decide, rfl, rfl⟩ ⟨by decide, rfl, rfl⟩ ⟨by decide, rfl, rfl⟩ x y w
section
variable {σ : Slots} {φ : Heap} {dst : Option Tmp} {ty : TypeId} {pos : String} {aft : Array Edge} {g : Option (Nat × Bool)}
theorem rd_eqent {T U : TypeId} {x y : Operand} {a b : Ent} (hx : ev σ x = some (entK a)) (hy : ev σ y = some (entK b)) (he : ∀ w, (Op.equalIn 10000 T (entK a) (entK b)).run Try.prog w = .ok (decide (a = b)) w) (hm : Try.prog.eqGuardType Try.prog.depth T = false) : Rd Try.prog σ φ ⟨dst, .binOp .eql T x y U, ty, pos, aft, g⟩ (.bool (decide (a = b))) :=
  rd_eqagg hx hy hm he rfl
theorem rd_neent {T U : TypeId} {x y : Operand} {a b : Ent} (hx : ev σ x = some (entK a)) (hy : ev σ y = some (entK b)) (he : ∀ w, (Op.equalIn 10000 T (entK a) (entK b)).run Try.prog w = .ok (decide (a = b)) w) (hm : Try.prog.eqGuardType Try.prog.depth T = false) : Rd Try.prog σ φ ⟨dst, .binOp .neq T x y U, ty, pos, aft, g⟩ (.bool (decide (a ≠ b))) :=
  rd_eqagg hx hy hm he (by simp)
end
end Go.Proofs.Ytegjmmjjchpeoaa
