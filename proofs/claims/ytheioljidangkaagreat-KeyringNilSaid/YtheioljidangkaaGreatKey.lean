/- What the callers of a chain's walk keep. No conditions. -/
import Derived.Test.YtheioljidangkaaGreatW14
namespace Go.Proofs.YtheioljidangkaaGreat
open Go Go.RowKit Go.Sx
set_option linter.unusedVariables false
set_option linter.unusedSimpArgs false
theorem OwnR.rebase {base : Nat} {E : TypeId} {k : Nat} {v : Value} {ν : Heap} {n : Nat} {xs : List Value} (h : OwnR 0 E k v ν n xs) (hf : ∀ b ∈ ν.map Prod.fst, base ≤ b) : OwnR base E k v ν n xs := by
  rcases h with h | ⟨g, cap, cur, h1, h2, h3, h4, h5, h6, h7, h8⟩
  · exact .inl h
  · exact .inr ⟨g, cap, cur, h1, h2, hf g (by rw [h2]; simp), h4, h5, h6, h7, h8⟩
abbrev keysOK (g : GV) (ν : Heap) (ks : List KK) : Prop := OwnR 0 39 51 g.v ν ks.length (ks.flatMap kkL)
/-- the keys so far, in a slice behind a pointer -/
def JChain (t : Nat) (pre : List KK) (ν : Heap) : Prop := ∃ (g : GV) (νs : Heap), keysOK g νs pre ∧ ν = (t, .cells #[g.v] 47 (0, 0)) :: νs
theorem visit_all : ∀ (l pre : List KK), visitF (fun _ _ => true) pre l = pre ++ l
  | [], pre => by simp [visitF]
  | x :: l, pre => by rw [visit_go rfl, visit_all l]; simp
/-- the last key with a number -/
def keyAt (number : Int) (pre : List KK) : Option KK := pre.foldl (fun o x => if x.n = number then some x else o) none
theorem keyAt_snoc (number : Int) (pre : List KK) (x : KK) : keyAt number (pre ++ [x]) = if x.n = number then some x else keyAt number pre := by simp [keyAt]
def goKey (number : Int) (pre : List KK) (x : KK) : Bool := !(keyAt number (pre ++ [x])).isSome
def JKey (number : Int) (bo bf : Nat) (pre : List KK) (ν : Heap) : Prop := ν = [(bo, .cells (kkC ((keyAt number pre).getD kk0)) 39 (0, 0)), (bf, .cells #[.bool (keyAt number pre).isSome] 4 (0, 0))]
theorem key_visit (number : Int) : ∀ (l pre : List KK), keyAt number pre = none → keyAt number (visitF (goKey number) pre l) = l.find? fun x => decide (x.n = number)
  | [], pre, h => by simp [visitF, h]
  | x :: l, pre, h => by
    by_cases hx : x.n = number
    · have e : keyAt number (pre ++ [x]) = some x := by rw [keyAt_snoc, if_pos hx]
      rw [visit_stop (by simp [goKey, e]), e]
      simp [hx]
    · have e : keyAt number (pre ++ [x]) = none := by rw [keyAt_snoc, if_neg hx, h]
      rw [visit_go (by simp [goKey, e]), key_visit number l _ e]
      simp [hx]
def keyF (own : List RK) (a : Au) (number : Int) : Option KK := (chainF own a).find? fun x => decide (x.n = number)
def judgeF (own : List RK) (a : Au) (number : Int) (q : Pub) (leaf : Int) (i : Id) : Int := match keyF own a number with
  | none => if number ≠ 0 then 1 else if fineB q ∧ ofF q = a then 0 else 2
  | some k => if k.p ≠ q then 2 else if k.lim ≠ -1 ∧ (k.lim < leaf ∨ leaf = k.lim ∧ i ≠ k.next) then 3 else 0
end Go.Proofs.YtheioljidangkaaGreat
