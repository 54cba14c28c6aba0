/- Equality of rows and of sets. No conditions. -/
import Derived.Test.YtaagmgpfpaanlaaPly
import Derived.Test.YtaagmgpfpaanlaaPth
import Derived.Laws.StructEq
namespace Go.Proofs.Ytaagmgpfpaanlaa
open Go Go.RowKit Go.Sx
set_option linter.unusedVariables false
set_option linter.unusedSimpArgs false
theorem part_ids {n : Nat} {T : TypeId} (hA : ∀ w, (isAgg T).run Try.prog w = .ok true w) (hS : ∀ w, (sizeOf T).run Try.prog w = .ok n w) {cs : Array Value} {off : Nat} {x : Vector UInt8 n} (h : ∀ j, j < n → cs[off + j]? = (idC x)[j]?) (hs : off + n ≤ cs.size) (w : World) : (part T cs off).run Try.prog w = .ok (.agg (idC x)) w := by
  have e : cs.extract off (off + n) = idC x := by
    apply Array.ext_getElem?
    intro j
    rw [Array.getElem?_extract]
    by_cases hj : j < n
    · rw [if_pos (by omega), h j hj]
    · rw [if_neg (by omega), Array.getElem?_eq_none (by rw [idC_size]; omega)]
  simp [part, hA, hS, e]
theorem part_at {T : TypeId} {i : Nat} {v : Value} (hA : ∀ w, (isAgg T).run Try.prog w = .ok false w) {cs : Array Value} (h : GetAt cs i v) (w : World) : (part T cs i).run Try.prog w = .ok v w := by
  simp [part, hA, h.go]
theorem rr_eq_iff (x y : RR) : x = y ↔ x.id = y.id ∧ x.au = y.au ∧ x.date = y.date ∧ x.sup = y.sup ∧ x.grp = y.grp := by
  cases x; cases y; simp
theorem eqFields_step {d : Nat} {xs ys : Array Value} {f : Field} {fs : List Field} {w : World} {u v : Value} {b r : Bool} (hn : f.name ≠ "_") (h1 : (part f.type xs f.offset).run Try.prog w = .ok u w) (h2 : (part f.type ys f.offset).run Try.prog w = .ok v w)
    (h3 : (Op.equalIn d f.type u v).run Try.prog w = .ok b w) (h4 : (Op.eqFields d xs ys fs).run Try.prog w = .ok r w) : (Op.eqFields d xs ys (f :: fs)).run Try.prog w = .ok (b && r) w := by
  simp only [Op.eqFields, hn, ne_eq, not_false_eq_true, if_true, Sem.run_bind, h1, h2, h3, Result.andThen_ok]
  cases b
  · simp
  · simp [h4]
theorem eq_vecN {n : Nat} (N d : Nat) (hN : N = d + 2) (T : TypeId) (hT : Try.prog.underlying T = some (.array n 5)) (a b : Vector UInt8 n) (w : World) : (Op.equalIn N T (.agg (idC a)) (.agg (idC b))).run Try.prog w = .ok (decide (a = b)) w := by
  have h1 : ∀ x : Vector UInt8 n, ∀ i, i < n → (idC x)[i]? = some (.int .u8 (if h : i < n then (x[i].toNat : Int) else 0)) := fun x i hi => by
    rw [dif_pos hi]; exact idC_at x i hi
  have h4 := run_equalIn_bytes (P := Try.prog) (kd := .u8) w N d hN T 5 n (idC a) (idC b) _ _ hT Try.sizeOf5 Try.isAgg5 Try.underlying5 (h1 a) (h1 b)
  refine h4.trans ?_
  refine congrArg (fun x => Result.ok x w) ?_
  rw [decide_eq_decide]
  constructor
  · intro h
    apply Vector.ext
    intro i hi
    have := h i hi
    simp only [hi, dif_pos] at this
    exact UInt8.toNat_inj.1 (by omega)
  · rintro rfl i hi; rfl
theorem eq_rrT (f0 f1 f2 f3 f4 : Field) (hU : Try.prog.underlying 46 = some (.struct #[f0, f1, f2, f3, f4])) (hp : Try.prog.stoodInHeld 46 = false)
    (h0 : f0.name ≠ "_" ∧ f0.type = 37 ∧ f0.offset = 0) (h1 : f1.name ≠ "_" ∧ f1.type = 39 ∧ f1.offset = 32) (h2 : f2.name ≠ "_" ∧ f2.type = 3 ∧ f2.offset = 48) (h3 : f3.name ≠ "_" ∧ f3.type = 37 ∧ f3.offset = 49) (h4 : f4.name ≠ "_" ∧ f4.type = 5 ∧ f4.offset = 81)
    (x y : RR) (w : World) : (Op.equalIn 10000 46 (rrK x) (rrK y)).run Try.prog w = .ok (decide (x = y)) w := by
  have hF : Try.prog.fieldsOf 46 = #[f0, f1, f2, f3, f4] := by simp [Program.fieldsOf, hU]
  have e := run_equalIn_struct (P := Try.prog) w 9999 46 (rrC x) (rrC y) (by rw [hF]; exact hU) hp
  refine e.trans ?_
  rw [hF]
  have hi : ∀ (a b : Int), (Op.equalIn 9999 3 (I a) (I b)).run Try.prog w = .ok (a == b) w := fun a b => run_equalIn_int w 9998 3 .i64 .i64 a b Try.underlying3
  have hb : ∀ (a b : UInt8), (Op.equalIn 9999 5 (u8v a) (u8v b)).run Try.prog w = .ok (decide (a = b)) w := fun a b => by
    have h := run_equalIn_int (P := Try.prog) w 9998 5 .u8 .u8 (a.toNat : Int) (b.toNat : Int) Try.underlying5
    refine h.trans (congrArg (fun z => Result.ok z w) ?_)
    rw [Bool.eq_iff_iff]
    simp [u8_eq]
  have p0 : ∀ (z : RR), (part f0.type (rrC z) f0.offset).run Try.prog w = .ok (.agg (idC z.id)) w := fun z => by rw [h0.2.1, h0.2.2]; exact part_ids (fun w => Agg.go w) (fun w => Agg.sz w) (fun j hj => rr_id z j hj) (by rw [rrC_size]; omega) w
  have p1 : ∀ (z : RR), (part f1.type (rrC z) f1.offset).run Try.prog w = .ok (.agg (idC z.au)) w := fun z => by rw [h1.2.1, h1.2.2]; exact part_ids (fun w => Agg.go w) (fun w => Agg.sz w) (fun j hj => rr_au z j hj) (by rw [rrC_size]; omega) w
  have p3 : ∀ (z : RR), (part f3.type (rrC z) f3.offset).run Try.prog w = .ok (.agg (idC z.sup)) w := fun z => by rw [h3.2.1, h3.2.2]; exact part_ids (fun w => Agg.go w) (fun w => Agg.sz w) (fun j hj => rr_sup z j hj) (by rw [rrC_size]; omega) w
  have s := eqFields_step (d := 9999) (w := w) h0.1 (p0 x) (p0 y) (by rw [h0.2.1]; exact eq_vecN 9999 9997 (by omega) 37 Try.underlying37 x.id y.id w)
    (eqFields_step h1.1 (p1 x) (p1 y) (by rw [h1.2.1]; exact eq_vecN 9999 9997 (by omega) 39 Try.underlying39 x.au y.au w)
    (eqFields_step h2.1 (by rw [h2.2.1, h2.2.2]; exact part_at Try.isAgg3 (inferInstance : GetAt (rrC x) 48 _) w) (by rw [h2.2.1, h2.2.2]; exact part_at Try.isAgg3 (inferInstance : GetAt (rrC y) 48 _) w) (by rw [h2.2.1]; exact hi _ _)
    (eqFields_step h3.1 (p3 x) (p3 y) (by rw [h3.2.1]; exact eq_vecN 9999 9997 (by omega) 37 Try.underlying37 x.sup y.sup w)
    (eqFields_step h4.1 (by rw [h4.2.1, h4.2.2]; exact part_at Try.isAgg5 (inferInstance : GetAt (rrC x) 81 _) w) (by rw [h4.2.1, h4.2.2]; exact part_at Try.isAgg5 (inferInstance : GetAt (rrC y) 81 _) w) (by rw [h4.2.1]; exact hb _ _)
    (by simp [Op.eqFields] : (Op.eqFields 9999 (rrC x) (rrC y) []).run Try.prog w = .ok true w)))))
  refine s.trans (congrArg (fun b => Result.ok b w) ?_)
  rw [Bool.eq_iff_iff]
  simp [rr_eq_iff x y]
theorem eq_rr (x y : RR) (w : World) : (Op.equalIn 10000 46 (rrK x) (rrK y)).run Try.prog w = .ok (decide (x = y)) w :=
  eq_rrT _ _ _ _ _ Try.underlying46 (by kernel_rfl) ⟨by decide, rfl, rfl⟩ ⟨by decide, rfl, rfl⟩ ⟨by decide, rfl, rfl⟩ ⟨by decide, rfl, rfl⟩ ⟨by decide, rfl, rfl⟩ x y w
section
variable {σ : Slots} {φ : Heap} {dst : Option Tmp} {ty : TypeId} {pos : String} {aft : Array Edge} {g : Option (Nat × Bool)}
theorem rd_eqrr {U : TypeId} {x y : Operand} {a b : RR} (hx : ev σ x = some (rrK a)) (hy : ev σ y = some (rrK b)) (hm : Try.prog.eqGuardType Try.prog.depth 46 = false) : Rd Try.prog σ φ ⟨dst, .binOp .eql 46 x y U, ty, pos, aft, g⟩ (.bool (decide (a = b))) :=
  rd_eqagg hx hy hm (fun w => eq_rr a b w) rfl
end
theorem names_inj {a b : UInt8} : names a = names b ↔ a = b := by
  constructor
  · intro h
    have h1 := (names_sub a b).1 (fun s hs => h ▸ hs)
    have h2 := (names_sub b a).1 (fun s hs => h ▸ hs)
    rw [← h1, UInt8.and_comm, h2]
  · rintro rfl; rfl
def okQ (L2 : RMap) (q : Id × HR) : Bool := match mlook L2 q.1 with
  | some y => decide (q.2.r = y.r)
  | none => false
def eqMB (L1 L2 : RMap) : Bool := decide (L1.length = L2.length) && L1.all (okQ L2)
def eqOB (l m : List RR) : Bool := decide (l.length = m.length) && l.all fun x => decide (x ∈ m)
theorem eqM_eqO {ν1 ν2 : Heap} {L1 L2 : RMap} {W1 W2 : WMap} {l m : List RR} (h1 : SetOK ν1 L1 W1 l) (h2 : SetOK ν2 L2 W2 m) : eqMB L1 L2 = eqOB l m := by
  rw [eqMB, eqOB, h1.len, h2.len]
  congr 1
  rw [← h1.rows, List.all_map]
  refine Bool.eq_iff_iff.2 ?_
  simp only [List.all_eq_true]
  refine forall_congr' fun q => forall_congr' fun hq => ?_
  simp only [okQ, Function.comp, decide_eq_true_eq]
  rw [h1.keys q hq]
  cases hl : mlook L2 q.2.r.id with
  | none =>
    simp only [Bool.false_eq_true, false_iff]
    exact fun hm => h2.miss hl _ hm rfl
  | some y =>
    obtain ⟨hm, he, _⟩ := h2.look hl
    simp only [decide_eq_true_eq]
    constructor
    · intro e; rw [e]; exact hm
    · exact fun h => uniq h2.nd h hm he.symm
theorem eqOB_refl (l : List RR) : eqOB l l = true := by simp [eqOB]
theorem eqOB_len {l m : List RR} (h : l.length ≠ m.length) : eqOB l m = false := by simp [eqOB, h]
theorem eqOB_comm {l m : List RR} (hl : (l.map RR.id).Nodup) (hm : (m.map RR.id).Nodup) : eqOB l m = eqOB m l := by
  have key : ∀ {l m : List RR}, (l.map RR.id).Nodup → (m.map RR.id).Nodup → eqOB l m = true → eqOB m l = true := fun {l m} hl hm h => by
    simp only [eqOB, Bool.and_eq_true, decide_eq_true_eq, List.all_eq_true] at h ⊢
    refine ⟨h.1.symm, fun y hy => ?_⟩
    by_cases hy2 : y ∈ l
    · exact hy2
    · have hnd : ∀ {q : List RR}, (q.map RR.id).Nodup → q.Nodup := fun {q} hq => by
        induction q with
        | nil => simp
        | cons a r ih =>
          rw [List.map_cons, List.nodup_cons] at hq
          exact List.nodup_cons.2 ⟨fun ha => hq.1 (List.mem_map.2 ⟨a, ha, rfl⟩), ih hq.2⟩
      have h3 : (y :: l).Nodup := List.nodup_cons.2 ⟨hy2, hnd hl⟩
      have h4 := nd_sub_len h3 (m := m) (fun z hz => by
        rcases List.mem_cons.1 hz with rfl | hz
        · exact hy
        · exact h.2 z hz)
      simp only [List.length_cons] at h4
      omega
  exact Bool.eq_iff_iff.2 ⟨key hl hm, key hm hl⟩
theorem dropO_short {own : List RR} {x : RR} (hx : x ∈ own) : (dropO own x.id).length < own.length := by
  rw [dropO]
  have : (own.filter fun y => !decide (y.id = x.id)).length ≠ own.length := fun h => by
    have := List.length_filter_eq_length_iff.1 h x hx
    simp at this
  have := List.length_filter_le (fun y : RR => !decide (y.id = x.id)) own
  omega
end Go.Proofs.Ytaagmgpfpaanlaa
