/- The chains' keys: their numbers and limits. No conditions. -/
import Derived.Test.YtheioljidangkaaGreatW15
namespace Go.Proofs.YtheioljidangkaaGreat
open Go Go.RowKit Go.Sx
set_option linter.unusedVariables false
set_option linter.unusedSimpArgs false
theorem roots_snoc (l : List RK) (r : RK) (a : Au) : rootsOf (l ++ [r]) a = if r.au = a ∧ r.n = 0 then rootsOf l a ++ [r.p] else rootsOf l a := by
  by_cases h : r.au = a ∧ r.n = 0
  · rw [if_pos h]; simp [rootsOf, List.filter_append, h]
  · rw [if_neg h]; simp only [rootsOf, List.filter_append, List.filter_cons, List.filter_nil, decide_eq_false h]; simp
theorem chainG_at {own : List RK} {a : Au} : ∀ (f nn : Nat) (q : Pub) (i : Nat) (x : KK), (chainG own a f nn q)[i]? = some x → x.n = ((nn + i : Nat) : Int)
  | 0, nn, q, i, x, h => by simp [chainG] at h
  | f + 1, nn, q, i, x, h => by
    rw [chainG] at h
    cases he : endF own ⟨a, nn, q⟩ with
    | none =>
      rw [he] at h
      cases i with
      | zero => simp at h; rw [← h]; simp
      | succ i => simp at h
    | some r =>
      rw [he] at h
      cases i with
      | zero => simp at h; rw [← h]; simp
      | succ i =>
        simp only [List.getElem?_cons_succ] at h
        rw [chainG_at f (nn + 1) r.q i x h]
        congr 1; omega
theorem chainF_at {own : List RK} {a : Au} {i : Nat} {x : KK} (h : (chainF own a)[i]? = some x) : x.n = (i : Int) := by
  unfold chainF at h
  cases hr : rootF own a with
  | none => rw [hr] at h; simp at h
  | some p => rw [hr] at h; have := chainG_at _ _ _ _ _ h; rw [this]; congr 1; omega
theorem find_pos {l : List KK} (hl : ∀ i x, l[i]? = some x → x.n = ((i : Nat) : Int)) (number : Int) : l.find? (fun x => decide (x.n = number)) = if 0 ≤ number then l[number.toNat]? else none := by
  by_cases h0 : 0 ≤ number
  · rw [if_pos h0]
    cases hx : l[number.toNat]? with
    | none =>
      rw [List.find?_eq_none]
      intro x hm
      obtain ⟨i, hi⟩ := List.mem_iff_getElem?.1 hm
      have h1 := hl i x hi
      simp only [decide_eq_true_eq]
      intro e
      have : number.toNat = i := by omega
      rw [this, hi] at hx
      cases hx
    | some x =>
      have h1 := hl _ x hx
      have h2 : l.find? (fun x => decide (x.n = number)) = some x := by
        rw [List.find?_eq_some_iff_append]
        refine ⟨by simp only [decide_eq_true_eq]; omega, l.take number.toNat, l.drop (number.toNat + 1), split_at hx, fun y hy => ?_⟩
        obtain ⟨i, hi⟩ := List.mem_iff_getElem?.1 hy
        rw [List.getElem?_take] at hi
        split at hi
        · have h3 := hl i y hi
          simp only [Bool.not_eq_eq_eq_not, Bool.not_true, decide_eq_false_iff_not]
          omega
        · cases hi
      exact h2
  · rw [if_neg h0, List.find?_eq_none]
    intro x hm
    obtain ⟨i, hi⟩ := List.mem_iff_getElem?.1 hm
    have h1 := hl i x hi
    simp only [decide_eq_true_eq]
    omega
theorem keyF_at (own : List RK) (a : Au) (number : Int) : keyF own a number = if 0 ≤ number then (chainF own a)[number.toNat]? else none := find_pos (fun _ _ h => chainF_at h) number
theorem chainG_lim {own : List RK} (hok : ∀ r ∈ own, okR r) {a : Au} : ∀ (f nn : Nat) (q : Pub) (x : KK), x ∈ chainG own a f nn q → x.lim = -1 ∨ 0 ≤ x.lim
  | 0, nn, q, x, h => by simp [chainG] at h
  | f + 1, nn, q, x, h => by
    rw [chainG] at h
    cases he : endF own ⟨a, nn, q⟩ with
    | none => rw [he] at h; simp at h; left; rw [h]
    | some r =>
      rw [he] at h
      rcases List.mem_cons.1 h with rfl | h
      · right; exact (hok r (endF_spec he).1).2.2.2.2.1.1
      · exact chainG_lim hok f (nn + 1) r.q x h
theorem chainF_lim {own : List RK} (hok : ∀ r ∈ own, okR r) {a : Au} {x : KK} (h : x ∈ chainF own a) : x.lim = -1 ∨ 0 ≤ x.lim := by
  unfold chainF at h
  cases hr : rootF own a with
  | none => rw [hr] at h; simp at h
  | some p => rw [hr] at h; exact chainG_lim hok _ _ _ _ h
theorem chainG_len {own : List RK} {a : Au} : ∀ (f nn : Nat) (q : Pub), (chainG own a f nn q).length ≤ f
  | 0, nn, q => by simp [chainG]
  | f + 1, nn, q => by
    rw [chainG]
    cases he : endF own ⟨a, nn, q⟩ with
    | none => simp
    | some r => simp only [List.length_cons]; have := chainG_len f (nn + 1) r.q (own := own) (a := a); omega
theorem chainF_len (own : List RK) (a : Au) : (chainF own a).length ≤ 1001 := by
  unfold chainF
  cases hr : rootF own a with
  | none => simp
  | some p => exact chainG_len _ _ _
end Go.Proofs.YtheioljidangkaaGreat
