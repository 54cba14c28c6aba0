/- The two digests are equal. No conditions. -/
import Derived.Test.YtheioljidangkaaGreatSch
namespace Go.Proofs.YtheioljidangkaaGreat
open Go Go.RowKit Go.Sx
set_option linter.unusedVariables false
set_option linter.unusedSimpArgs false
theorem wg_set {n : Nat} (w : WV n) (i : Nat) (x : UInt32) (hi : i < n) (j : Nat) : wg (wset w i x) j = if j = i then x else wg w j := by
  rw [wset, dif_pos hi, wg, wg, Vector.toArray_set]
  simp only [Array.getD_eq_getD_getElem?, Array.getElem?_set]
  by_cases h : i = j
  · subst h; simp [hi]
  · simp [h, Ne.symm h]
theorem sched_keep (bs : List UInt8) (n i : Nat) (hi : i < n) : ∀ d, n + d ≤ 64 → wg (schedF bs (n + d)) i = wg (schedF bs n) i
  | 0, _ => rfl
  | d + 1, h => by
    have ih := sched_keep bs n i hi d (by omega)
    show wg (sStep bs (schedF bs (n + d)) (n + d)) i = _
    rw [sStep, wg_set _ _ _ (by omega), if_neg (by omega), ih]
def Wf (bs : List UInt8) (i : Nat) : UInt32 := wg (schedF bs 64) i
theorem W_of (bs : List UInt8) {n i : Nat} (hi : i < n) (hn : n ≤ 64) : wg (schedF bs n) i = Wf bs i := by
  have := sched_keep bs n i hi (64 - n) (by omega)
  rw [show n + (64 - n) = 64 by omega] at this
  exact this.symm
theorem W_at (bs : List UInt8) {t : Nat} (ht : t < 64) : Wf bs t = if t < 16 then w4at bs t else sNew (schedF bs t) t := by
  rw [← W_of bs (n := t + 1) (by omega) (by omega)]
  show wg (sStep bs (schedF bs t) t) t = _
  rw [sStep, wg_set _ _ _ ht, if_pos rfl]
theorem load_at (bs : List UInt8) : ∀ n i, i < n → n ≤ 16 → wg (loadF bs n) i = w4at bs i
  | 0, i, h, _ => by omega
  | n + 1, i, h, hn => by
    show wg (wset (loadF bs n) n (w4at bs n)) i = _
    rw [wg_set _ _ _ (by omega)]
    by_cases hi : i = n
    · subst hi; simp
    · rw [if_neg hi]; exact load_at bs n i (by omega) (by omega)
def refRounds (bs : List UInt8) : Nat → WV 8
  | 0 => kI
  | t + 1 => roundF (refRounds bs t) (wg kK t) (wg (schedF bs 64) t)
/-- the window: after t steps it holds the sixteen words below max t 16 -/
theorem proc_inv (bs : List UInt8) : ∀ t, t ≤ 64 → (∀ i, i < max t 16 → max t 16 ≤ i + 16 → wg (procF kI (loadF bs 16) t).1 (i % 16) = Wf bs i) ∧ (procF kI (loadF bs 16) t).2 = refRounds bs t
  | 0, _ => ⟨fun i h1 h2 => by
      rw [Nat.mod_eq_of_lt (by omega)]
      show wg (loadF bs 16) i = _
      rw [load_at bs 16 i (by omega) (by omega), W_at bs (by omega), if_pos (by omega)], rfl⟩
  | t + 1, h => by
    obtain ⟨ih1, ih2⟩ := proc_inv bs t (by omega)
    have hm : t % 16 < 16 := Nat.mod_lt _ (by omega)
    have key : (∀ i, i < max (t + 1) 16 → max (t + 1) 16 ≤ i + 16 → wg (pBlk (procF kI (loadF bs 16) t).1 t) (i % 16) = Wf bs i) := fun i h1 h2 => by
      unfold pBlk
      by_cases ht : t < 16
      · rw [if_pos ht]; exact ih1 i (by omega) (by omega)
      · rw [if_neg ht, wg_set _ _ _ hm]
        by_cases hi : i = t
        · subst hi
          rw [if_pos rfl, W_at bs (by omega), if_neg ht]
          have e0 := ih1 (i - 16) (by omega) (by omega)
          rw [show (i - 16) % 16 = i % 16 by omega] at e0
          rw [pNew, e0, ih1 (i - 2) (by omega) (by omega), ih1 (i - 7) (by omega) (by omega), ih1 (i - 15) (by omega) (by omega), sNew, W_of bs (n := i) (by omega) (by omega), W_of bs (n := i) (by omega) (by omega), W_of bs (n := i) (by omega) (by omega), W_of bs (n := i) (by omega) (by omega), UInt32.add_comm]
        · rw [if_neg (by omega)]; exact ih1 i (by omega) (by omega)
    refine ⟨key, ?_⟩
    show roundF (procF kI (loadF bs 16) t).2 (wg kK t) (wg (pBlk (procF kI (loadF bs 16) t).1 t) (t % 16)) = _
    rw [ih2, key t (by omega) (by omega)]
    rfl
theorem plusF_comm (v u : WV 8) : plusF v u = plusF u v := by
  simp only [plusF, UInt32.add_comm]
/-- one block: both states -/
theorem sha_eq (bs : List UInt8) : plusF (procF kI (loadF bs 16) 64).2 kI = plusF kI (refRounds bs 64) := by
  rw [(proc_inv bs 64 (by omega)).2, plusF_comm]
end Go.Proofs.YtheioljidangkaaGreat
