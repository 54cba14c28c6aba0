import Derived.Test.YtheioljidangkaaGreatMx
import Derived.DeepKeys5
import Derived.Laws.StructEq
namespace Go.Sx
open Go Go.RowKit

def eqElems (d : Nat) (E : TypeId) (k : Nat) (xs ys : Array Value) : List Nat → Sem Bool
  | [] => pure true
  | i :: r => do
    let a ← part E xs (i * k)
    let b ← part E ys (i * k)
    let c ← Op.equalIn d E a b
    if (!c) = true then pure false else eqElems d E k xs ys r
theorem run_equalIn_array {P : Program} (w : World) (d : Nat) (t E : TypeId) (len k : Nat) (xs ys : Array Value) (ht : P.underlying t = some (.array len E)) (hE : ∀ w, (sizeOf E).run P w = .ok k w) :
    (Op.equalIn (d + 1) t (.agg xs) (.agg ys)).run P w = (eqElems d E k xs ys (List.range len)).run P w := by
  simp only [Op.equalIn, Sem.run_bind, run_underlying ht, Result.andThen_ok, hE]
  rw [Std.Legacy.Range.forIn_eq_forIn_range', List.range_eq_range']
  simp only [Std.Legacy.Range.size, Nat.sub_zero, Nat.add_sub_cancel, Nat.div_one]
  generalize List.range' 0 len 1 = l
  induction l generalizing w with
  | nil => simp [eqElems]
  | cons i l ih =>
    simp only [List.forIn_cons, eqElems, Sem.run_bind, Sem.run_ite]
    generalize (part E xs (i * k)).run P w = r1
    cases r1 with
    | ok a w1 =>
      simp only [Result.andThen_ok]
      generalize (part E ys (i * k)).run P w1 = r2
      cases r2 with
      | ok b w2 =>
        simp only [Result.andThen_ok]
        generalize (Op.equalIn d E a b).run P w2 = r3
        cases r3 with
        | ok r w3 =>
          cases r
          · simp only [Result.andThen_ok, Bool.not_false, if_true, Sem.run_pure]
          · simp only [Result.andThen_ok, Bool.not_true, Bool.false_eq_true, if_false, Sem.run_pure]
            exact ih w3
        | halt x w3 => simp [Result.andThen]
      | halt x w2 => simp [Result.andThen]
    | halt x w1 => simp [Result.andThen]
/-- '==' of two arrays of bytes -/
theorem run_equalIn_bytes {P : Program} (w : World) (N d : Nat) (hN : N = d + 2) (t E : TypeId) (len : Nat) (xs ys : Array Value) (f g : Nat → Int) (ht : P.underlying t = some (.array len E)) (hE : ∀ w, (sizeOf E).run P w = .ok 1 w) (hA : ∀ w, (isAgg E).run P w = .ok false w)
    {kd kd' : IntKind} (hI : P.underlying E = some (.int kd')) (hx : ∀ i, i < len → xs[i]? = some (.int kd (f i))) (hy : ∀ i, i < len → ys[i]? = some (.int kd (g i))) :
    (Op.equalIn N t (.agg xs) (.agg ys)).run P w = .ok (decide (∀ i, i < len → f i = g i)) w := by
  subst hN
  rw [run_equalIn_array w (d + 1) t E len 1 xs ys ht hE]
  have key : ∀ l : List Nat, (∀ i ∈ l, i < len) → (eqElems (d + 1) E 1 xs ys l).run P w = .ok (decide (∀ i ∈ l, f i = g i)) w := by
    intro l
    induction l with
    | nil => intro _; simp [eqElems]
    | cons i l ih =>
      intro hl
      have hi := hl i (by simp)
      have hpx : (part E xs (i * 1)).run P w = .ok (.int kd (f i)) w := by simp [part, Sem.run_bind, hA, hx i hi]
      have hpy : (part E ys (i * 1)).run P w = .ok (.int kd (g i)) w := by simp [part, Sem.run_bind, hA, hy i hi]
      simp only [eqElems, Sem.run_bind, hpx, hpy, Result.andThen_ok, run_equalIn_int w d E kd kd' _ _ hI]
      by_cases h : f i = g i
      · have hb : (f i == g i) = true := by simp [h]
        simp only [hb, Bool.not_true, Bool.false_eq_true, if_false]
        rw [ih fun j hj => hl j (List.mem_cons_of_mem _ hj)]
        simp [h]
      · have hb : (f i == g i) = false := by simp [h]
        simp [hb, h]
  rw [key _ (fun i hi => List.mem_range.1 hi)]
  simp
section
variable {P : Program} {σ : Slots} {φ : Heap} {dst : Option Tmp} {ty : TypeId} {pos : String} {aft : Array Edge} {g : Option (Nat × Bool)}
/-- '==', '!=' on a type of several cells, by what 'equalIn' gives -/
theorem rd_eqagg {op : BinOp} {T U : TypeId} {x y : Operand} {xs ys : Array Value} {b r : Bool} (hx : ev σ x = some (.agg xs)) (hy : ev σ y = some (.agg ys)) (hm : P.eqGuardType P.depth T = false) (he : ∀ w, (Op.equalIn 10000 T (.agg xs) (.agg ys)).run P w = .ok b w)
    (hb : (match op with | .eql => some b | .neq => some (!b) | _ => none) = some r) : Rd P σ φ ⟨dst, .binOp op T x y U, ty, pos, aft, g⟩ (.bool r) :=
  rd_bin hx hy fun w => by
    cases op <;> simp at hb <;> subst hb
    · rw [Sem.run_bind, run_eqGuard_agg w _ T x y xs ys hm]
      simp only [Result.andThen_ok, run_eql_struct, he]
    · rw [Sem.run_bind, run_eqGuard_agg w _ T x y xs ys hm]
      simp [run_neq_struct, he]
end

theorem mapM_some {α β : Type} {f : α → Option β} : ∀ l : List α, (∀ i ∈ l, ∃ y, f i = some y) → ∃ ys, l.mapM f = some ys
  | [], _ => ⟨[], rfl⟩
  | i :: l, h => by
    obtain ⟨y, hy⟩ := h i (by simp)
    obtain ⟨ys, hys⟩ := mapM_some l fun j hj => h j (List.mem_cons_of_mem _ hj)
    exact ⟨y :: ys, by simp [List.mapM_cons, hy, hys]⟩
theorem keyLits_u8 {P : Program} {t E : TypeId} {len : Nat} (ht : P.underlying t = some (.array len E)) (hE : P.underlying E = some (.int .u8)) (hc : P.cellsOf t = len) (hcE : P.cellsOf E = 1) (d : Nat) (cs : List Value) (hl : cs.length = len)
    (h : ∀ i, i < len → ∃ b : UInt8, cs[i]? = some (.int .u8 b.toNat)) : ∃ l, P.keyLits (d + 2) t cs = some l := by
  obtain ⟨ys, hys⟩ := mapM_some (f := fun i => P.keyLits (d + 1) E ((cs.drop (i * P.cellsOf E)).take (P.cellsOf E))) (List.range len) (fun i hi => by
    obtain ⟨b, hb⟩ := h i (List.mem_range.1 hi)
    have hb' : (cs.drop (i * P.cellsOf E)).take (P.cellsOf E) = [.int .u8 b.toNat] := by
      rw [hcE, Nat.mul_one]
      have hlt := (List.getElem?_eq_some_iff.1 hb).1
      have hv := (List.getElem?_eq_some_iff.1 hb).2
      rw [List.drop_eq_getElem_cons hlt, hv]
      rfl
    have hw : (Lit.int .u8 (b.toNat : Int)).wf = true := by
      have := b.toNat_lt
      simp [Lit.wf, IntKind.min, IntKind.max, IntKind.signed, IntKind.bits]
      omega
    exact ⟨[.int .u8 b.toNat], by simp only [hb']; simp [Program.keyLits, hE, hw]⟩)
  exact ⟨ys.flatten, by
    unfold Program.keyLits
    simp only [ht, hl, hc, if_true]
    rw [hys]
    rfl⟩
theorem keyOf_u8 {P : Program} {t E : TypeId} {len : Nat} (ht : P.underlying t = some (.array len E)) (hE : P.underlying E = some (.int .u8)) (hc : P.cellsOf t = len) (hcE : P.cellsOf E = 1) (hk : P.keyType t = true) (hsz : 0 < P.types.size) (cs : Array Value) (hl : cs.size = len)
    (h : ∀ i, i < len → ∃ b : UInt8, cs[i]? = some (.int .u8 b.toNat)) : ∃ l, keyOf P t (.agg cs) = some l := by
  obtain ⟨m, hm⟩ : ∃ m, P.types.size + 1 = m + 2 := ⟨P.types.size - 1, by omega⟩
  obtain ⟨l, hls⟩ := keyLits_u8 ht hE hc hcE m cs.toList (by simpa using hl) (fun i hi => by simpa using h i hi)
  refine ⟨.string (keyBytes l), ?_⟩
  unfold keyOf
  simp only [ht, hk, Bool.true_and, Value.formed, hc, hl, beq_self_eq_true, if_true, hm, Value.cells]
  rw [hls]
  rfl
end Go.Sx
