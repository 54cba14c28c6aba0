/- Plain functions: orders, smallest ones, chains. No conditions. -/
import Derived.Test.YtheioljidangkaaGreatHsh
import Derived.Test.YtheioljidangkaaGreatYx
namespace Go.Proofs.YtheioljidangkaaGreat
open Go Go.RowKit Go.Sx
set_option linter.unusedVariables false
set_option linter.unusedSimpArgs false
def cmpF (a b : Int) : Int := if a < b then -1 else if b < a then 1 else 0
def orF : List Int → Int
  | [] => 0
  | x :: r => if x ≠ 0 then x else orF r
theorem compareBytes_lt : ∀ (a b : List UInt8), Lib.compareBytes a b < 0 ↔ a < b
  | [], [] => by simp [Lib.compareBytes]
  | [], _ :: _ => by simp [Lib.compareBytes]
  | _ :: _, [] => by simp [Lib.compareBytes]
  | x :: a, y :: b => by
    rw [Lib.compareBytes, List.cons_lt_cons_iff]
    by_cases h1 : x < y
    · simp [h1]
    · by_cases h2 : y < x
      · have hne : x ≠ y := fun e => by subst e; exact absurd h2 (UInt8.lt_irrefl _)
        simp [h1, h2, hne]
      · have he : x = y := UInt8.le_antisymm (UInt8.not_lt.1 h2) (UInt8.not_lt.1 h1)
        subst he
        simp [compareBytes_lt a b]
theorem compareBytes_zero : ∀ (a b : List UInt8), Lib.compareBytes a b = 0 ↔ a = b
  | [], [] => by simp [Lib.compareBytes]
  | [], _ :: _ => by simp [Lib.compareBytes]
  | _ :: _, [] => by simp [Lib.compareBytes]
  | x :: a, y :: b => by
    rw [Lib.compareBytes]
    by_cases h1 : x < y
    · have hne : x ≠ y := fun e => by subst e; exact absurd h1 (UInt8.lt_irrefl _)
      simp [h1, hne]
    · by_cases h2 : y < x
      · have hne : x ≠ y := fun e => by subst e; exact absurd h2 (UInt8.lt_irrefl _)
        simp [h1, h2, hne]
      · have he : x = y := UInt8.le_antisymm (UInt8.not_lt.1 h2) (UInt8.not_lt.1 h1)
        subst he
        simp [compareBytes_zero a b]abbrev vLt {n : Nat} (a b : Vector UInt8 n) : Prop := a.toList < b.toList
abbrev cmpV {n : Nat} (a b : Vector UInt8 n) : Int := Lib.compareBytes a.toList b.toList
theorem vLt_irrefl {n : Nat} (a : Vector UInt8 n) : ¬ vLt a a := List.lt_irrefl _
theorem vLt_trans {n : Nat} {a b c : Vector UInt8 n} (h1 : vLt a b) (h2 : vLt b c) : vLt a c := List.lt_trans h1 h2
theorem vLt_total {n : Nat} {a b : Vector UInt8 n} (h1 : ¬ vLt a b) (h2 : ¬ vLt b a) : a = b :=
  Vector.toList_inj.1 (List.le_antisymm (List.not_lt.1 h2) (List.not_lt.1 h1))
theorem cmpV_lt {n : Nat} (a b : Vector UInt8 n) : cmpV a b < 0 ↔ vLt a b := compareBytes_lt _ _
theorem cmpV_zero {n : Nat} (a b : Vector UInt8 n) : cmpV a b = 0 ↔ a = b := by rw [cmpV, compareBytes_zero]; exact Vector.toList_inj
/-- first by a number, then by bytes -/
def numLt {n : Nat} (a b : Int) (x y : Vector UInt8 n) : Prop := a < b ∨ a = b ∧ vLt x y
instance {n : Nat} (a b : Int) (x y : Vector UInt8 n) : Decidable (numLt a b x y) := by unfold numLt; infer_instance
theorem num_lt {n : Nat} (a b : Int) (x y : Vector UInt8 n) : orF [cmpF a b, cmpV x y] < 0 ↔ numLt a b x y := by
  by_cases h1 : a < b
  · have hc : cmpF a b = -1 := by simp [cmpF, h1]
    simp [orF, hc, numLt, h1]
  · by_cases h2 : b < a
    · have hc : cmpF a b = 1 := by simp [cmpF, h1, h2]
      have hn : ¬ numLt a b x y := fun h => h.elim (fun h => absurd h h1) (fun h => by omega)
      simp [orF, hc, hn]
    · have hc : cmpF a b = 0 := by simp [cmpF, h1, h2]
      have e : a = b := by omega
      have ho : numLt a b x y ↔ vLt x y := ⟨fun h => h.elim (fun h => absurd h h1) And.right, fun h => .inr ⟨e, h⟩⟩
      rw [ho, ← cmpV_lt]
      by_cases h3 : cmpV x y = 0 <;> simp [orF, hc, h3]
theorem numLt_irrefl {n : Nat} (a : Int) (x : Vector UInt8 n) : ¬ numLt a a x x := fun h => h.elim (fun h => Int.lt_irrefl _ h) (fun h => vLt_irrefl _ h.2)
theorem numLt_trans {n : Nat} {a b c : Int} {x y z : Vector UInt8 n} (h1 : numLt a b x y) (h2 : numLt b c y z) : numLt a c x z := by
  rcases h1 with h1 | ⟨rfl, h1⟩
  · rcases h2 with h2 | ⟨rfl, h2⟩
    · exact .inl (by omega)
    · exact .inl h1
  · rcases h2 with h2 | ⟨rfl, h2⟩
    · exact .inl h2
    · exact .inr ⟨rfl, vLt_trans h1 h2⟩
theorem numLt_total {n : Nat} {a b : Int} {x y : Vector UInt8 n} (h1 : ¬ numLt a b x y) (h2 : ¬ numLt b a y x) : a = b ∧ x = y := by
  have e : a = b := by
    have h3 : ¬ a < b := fun h => h1 (.inl h)
    have h4 : ¬ b < a := fun h => h2 (.inl h)
    omega
  subst e
  exact ⟨rfl, vLt_total (fun h => h1 (.inr ⟨rfl, h⟩)) (fun h => h2 (.inr ⟨rfl, h⟩))⟩
abbrev pubLt (a b : Pub) : Prop := numLt a.h b.h a.root b.root
abbrev rkLt (a b : RK) : Prop := numLt a.leaf b.leaf a.id b.id
abbrev pubF (a b : Pub) : Int := orF [cmpF a.h b.h, cmpV a.root b.root]
abbrev rkF (a b : RK) : Int := orF [cmpF a.leaf b.leaf, cmpV a.id b.id]
/-! the smallest one -/
section
variable {α : Type} (lt : α → α → Prop) [DecidableRel lt]
def minFrom (m : α) : List α → α
  | [] => m
  | x :: r => minFrom (if lt x m then x else m) r
def minOf : List α → Option α
  | [] => none
  | x :: r => some (minFrom lt x r)
theorem minFrom_snoc (m : α) (l : List α) (x : α) : minFrom lt m (l ++ [x]) = if lt x (minFrom lt m l) then x else minFrom lt m l := by
  induction l generalizing m with
  | nil => rfl
  | cons y l ih => exact ih _
theorem minOf_snoc (l : List α) (x : α) : minOf lt (l ++ [x]) = some (match minOf lt l with | none => x | some m => if lt x m then x else m) := by
  cases l with
  | nil => rfl
  | cons y l => simp only [List.cons_append, minOf, minFrom_snoc]
theorem minFrom_mem (m : α) (l : List α) : minFrom lt m l ∈ m :: l := by
  induction l generalizing m with
  | nil => simp [minFrom]
  | cons x l ih =>
    have h := ih (if lt x m then x else m)
    simp only [minFrom]
    rcases List.mem_cons.1 h with h | h
    · rw [h]; split <;> simp
    · simp [h]
theorem minOf_mem {l : List α} {m : α} (h : minOf lt l = some m) : m ∈ l := by
  cases l with
  | nil => cases h
  | cons x l => simp only [minOf, Option.some.injEq] at h; rw [← h]; exact minFrom_mem lt x l
theorem minOf_none {l : List α} : minOf lt l = none ↔ l = [] := by cases l <;> simp [minOf]
variable (hi : ∀ a, ¬ lt a a) (ht : ∀ a b c, lt a b → lt b c → lt a c) (hw : ∀ a b c, ¬ lt a b → ¬ lt b c → ¬ lt a c)
include hi ht hw in
theorem minFrom_le (m : α) (l : List α) : ∀ x ∈ m :: l, ¬ lt x (minFrom lt m l) := by
  induction l generalizing m with
  | nil => intro x hx; simp at hx; subst hx; exact hi x
  | cons y l ih =>
    intro x hx
    have h := ih (if lt y m then y else m)
    simp only [minFrom]
    rcases List.mem_cons.1 hx with rfl | hx
    · by_cases hy : lt y x
      · rw [if_pos hy] at h ⊢
        have h1 := h y (by simp)
        exact hw _ _ _ (fun hc => hi _ (ht _ _ _ hy hc)) h1
      · rw [if_neg hy] at h ⊢
        exact h x (by simp)
    · rcases List.mem_cons.1 hx with rfl | hx
      · by_cases hy : lt x m
        · rw [if_pos hy] at h ⊢; exact h x (by simp)
        · rw [if_neg hy] at h ⊢
          have h1 := h m (by simp)
          exact hw _ _ _ hy h1
      · exact h x (List.mem_cons_of_mem _ hx)
include hi ht hw in
theorem minOf_le {l : List α} {m : α} (h : minOf lt l = some m) : ∀ x ∈ l, ¬ lt x m := by
  cases l with
  | nil => cases h
  | cons x l => simp only [minOf, Option.some.injEq] at h; rw [← h]; exact minFrom_le lt hi ht hw x l
include hi ht hw in
/-- the smallest one is the same for the same elements -/
theorem minOf_congr {l l' : List α} (hm : ∀ x, x ∈ l ↔ x ∈ l') (hu : ∀ x ∈ l, ∀ y ∈ l, ¬ lt x y → ¬ lt y x → x = y) : minOf lt l = minOf lt l' := by
  cases h : minOf lt l with
  | none =>
    have := (minOf_none lt).1 h
    subst this
    have : l' = [] := List.eq_nil_iff_forall_not_mem.2 fun x hx => by have := (hm x).2 hx; cases this
    subst this; rfl
  | some m =>
    cases h' : minOf lt l' with
    | none =>
      have := (minOf_none lt).1 h'
      subst this
      have := (hm m).1 (minOf_mem lt h)
      cases this
    | some m' =>
      have h1 := minOf_mem lt h
      have h2 := minOf_mem lt h'
      have h3 := minOf_le lt hi ht hw h m' ((hm _).2 h2)
      have h4 := minOf_le lt hi ht hw h' m ((hm _).1 h1)
      rw [hu m h1 m' ((hm _).2 h2) h4 h3]
end
theorem numLt_weak {n : Nat} {a b c : Int} {x y z : Vector UInt8 n} (h1 : ¬ numLt a b x y) (h2 : ¬ numLt b c y z) : ¬ numLt a c x z := fun h => by
  by_cases h3 : numLt b a y x
  · exact h2 (numLt_trans h3 h)
  · obtain ⟨rfl, rfl⟩ := numLt_total h1 h3
    exact h2 h
def plOf (r : RK) : Pl := ⟨r.au, r.n, r.p⟩
/-- the first keys of an author -/
def rootsOf (own : List RK) (a : Au) : List Pub := (own.filter fun r => decide (r.au = a ∧ r.n = 0)).map RK.p
def rootF (own : List RK) (a : Au) : Option Pub := minOf pubLt (rootsOf own a)
def atPl (own : List RK) (x : Pl) : List RK := own.filter fun r => decide (plOf r = x)
/-- the roll-over that ends a key -/
def endF (own : List RK) (x : Pl) : Option RK := minOf rkLt (atPl own x)
def chainG (own : List RK) (a : Au) : Nat → Nat → Pub → List KK
  | 0, _, _ => []
  | f + 1, n, p => match endF own ⟨a, n, p⟩ with
    | none => [⟨n, p, -1, id0⟩]
    | some r => ⟨n, p, r.leaf, r.id⟩ :: chainG own a f (n + 1) r.q
def chainF (own : List RK) (a : Au) : List KK := match rootF own a with
  | none => []
  | some p => chainG own a 1001 0 p
def fineB (p : Pub) : Prop := 1 ≤ p.h ∧ p.h ≤ 8
instance (p : Pub) : Decidable (fineB p) := inferInstanceAs (Decidable (_ ∧ _))
/-- a roll-over that Add lets in -/
def okR (r : RK) : Prop := (0 ≤ r.n ∧ r.n ≤ 999) ∧ fineB r.p ∧ fineB r.q ∧ r.p ≠ r.q ∧ (0 ≤ r.leaf ∧ r.leaf < 2 ^ r.p.h.toNat) ∧ (r.n = 0 → ofF r.p = r.au)
instance (r : RK) : Decidable (okR r) := by unfold okR; infer_instance
theorem endF_spec {own : List RK} {x : Pl} {r : RK} (h : endF own x = some r) : r ∈ own ∧ plOf r = x := by
  have := minOf_mem _ h
  simpa [atPl] using this
theorem lt_prefix {p xs ys : List UInt8} {x y : UInt8} (h : x < y) : p ++ x :: xs < p ++ y :: ys := by
  induction p with
  | nil => exact List.cons_lt_cons_iff.2 (.inl h)
  | cons z p ih => exact List.cons_lt_cons_iff.2 (.inr ⟨rfl, ih⟩)
theorem lt_at {xs ys : List UInt8} {j : Nat} {x y : UInt8} (hp : xs.take j = ys.take j) (ha : xs[j]? = some x) (hb : ys[j]? = some y) (h : x < y) : xs < ys := by
  rw [split_at ha, split_at hb, hp]
  exact lt_prefix h
theorem u8_lt {x y : UInt8} : (x.toNat : Int) < (y.toNat : Int) ↔ x < y := by
  rw [UInt8.lt_iff_toNat_lt]; omega
end Go.Proofs.YtheioljidangkaaGreat
