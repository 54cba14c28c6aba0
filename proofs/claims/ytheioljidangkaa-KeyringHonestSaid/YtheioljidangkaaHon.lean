/- An honest author's chain. No conditions. -/
import Derived.Test.YtheioljidangkaaOut
namespace Go.Proofs.Ytheioljidangkaa
open Go Go.RowKit Go.Sx
set_option linter.unusedVariables false
set_option linter.unusedSimpArgs false
theorem minFrom_all {α : Type} (lt : α → α → Prop) [DecidableRel lt] {x : α} : ∀ {l : List α}, (∀ y ∈ l, y = x) → minFrom lt x l = x
  | [], _ => rfl
  | y :: l, h => by
    have hy := h y (by simp)
    subst hy
    rw [minFrom, ite_self]
    exact minFrom_all lt (fun z hz => h z (List.mem_cons_of_mem _ hz))
theorem minOf_all {α : Type} (lt : α → α → Prop) [DecidableRel lt] {x : α} {l : List α} (hx : x ∈ l) (h : ∀ y ∈ l, y = x) : minOf lt l = some x := by
  cases l with
  | nil => cases hx
  | cons y l =>
    have hy := h y (by simp)
    subst hy
    rw [minOf, minFrom_all lt (fun z hz => h z (List.mem_cons_of_mem _ hz))]
abbrev hA : Au := ofF (pubV 1)
def m0 (x : UInt8) : MV := ⟨1, 0, 1, 2, x, 13, 255⟩
def m1 (x : UInt8) : MV := ⟨1, 1, 2, 3, x, 14, 255⟩
def m2 (x : UInt8) : MV := ⟨1, 2, 3, 4, x, 15, 255⟩
theorem R0_eq (x : UInt8) : rekR (m0 x) = ⟨idM 13, hA, 0, pubV 1, (((m0 x).leaf.toNat % 2 ^ (1 + (1 : UInt8).toNat % 3) : Nat) : Int), pubV 2⟩ := rfl
theorem R1_eq (x : UInt8) : rekR (m1 x) = ⟨idM 14, hA, 1, pubV 2, (((m1 x).leaf.toNat % 2 ^ (1 + (2 : UInt8).toNat % 3) : Nat) : Int), pubV 3⟩ := rfl
theorem R2_eq (x : UInt8) : rekR (m2 x) = ⟨idM 15, hA, 2, pubV 3, (((m2 x).leaf.toNat % 2 ^ (1 + (3 : UInt8).toNat % 3) : Nat) : Int), pubV 4⟩ := rfl
/-- three roll-overs of one author -/
structure Three where
  r0 : RK
  r1 : RK
  r2 : RK
structure Three.OK (t : Three) : Prop where
  h0 : t.r0.au = hA ∧ t.r0.n = 0 ∧ t.r0.p = pubV 1 ∧ t.r0.q = pubV 2 ∧ 0 ≤ t.r0.leaf
  h1 : t.r1.au = hA ∧ t.r1.n = 1 ∧ t.r1.p = pubV 2 ∧ t.r1.q = pubV 3 ∧ 0 ≤ t.r1.leaf
  h2 : t.r2.au = hA ∧ t.r2.n = 2 ∧ t.r2.p = pubV 3 ∧ t.r2.q = pubV 4 ∧ 0 ≤ t.r2.leaf
def threeM (x y z : UInt8) : Three := ⟨rekR (m0 x), rekR (m1 y), rekR (m2 z)⟩
theorem threeM_ok (x y z : UInt8) : (threeM x y z).OK := by
  refine ⟨?_, ?_, ?_⟩
  · show (rekR (m0 x)).au = hA ∧ (rekR (m0 x)).n = 0 ∧ (rekR (m0 x)).p = pubV 1 ∧ (rekR (m0 x)).q = pubV 2 ∧ 0 ≤ (rekR (m0 x)).leaf
    rw [R0_eq]; exact ⟨rfl, rfl, rfl, rfl, Int.natCast_nonneg _⟩
  · show (rekR (m1 y)).au = hA ∧ (rekR (m1 y)).n = 1 ∧ (rekR (m1 y)).p = pubV 2 ∧ (rekR (m1 y)).q = pubV 3 ∧ 0 ≤ (rekR (m1 y)).leaf
    rw [R1_eq]; exact ⟨rfl, rfl, rfl, rfl, Int.natCast_nonneg _⟩
  · show (rekR (m2 z)).au = hA ∧ (rekR (m2 z)).n = 2 ∧ (rekR (m2 z)).p = pubV 3 ∧ (rekR (m2 z)).q = pubV 4 ∧ 0 ≤ (rekR (m2 z)).leaf
    rw [R2_eq]; exact ⟨rfl, rfl, rfl, rfl, Int.natCast_nonneg _⟩
/-- the author's roll-overs are these -/
def Only3 (t : Three) (own : List RK) : Prop := ∀ r ∈ own, r.au = hA → r = t.r0 ∨ r = t.r1 ∨ r = t.r2
def chA (t : Three) (b0 b1 b2 : Prop) [Decidable b0] [Decidable b1] [Decidable b2] : List KK :=
  if b0 then ⟨0, pubV 1, t.r0.leaf, t.r0.id⟩ :: (if b1 then ⟨1, pubV 2, t.r1.leaf, t.r1.id⟩ :: (if b2 then [⟨2, pubV 3, t.r2.leaf, t.r2.id⟩, ⟨3, pubV 4, -1, id0⟩] else [⟨2, pubV 3, -1, id0⟩]) else [⟨1, pubV 2, -1, id0⟩]) else []
theorem end3 {own : List RK} (r : RK) (x : Pl) (hx : plOf r = x) (hr : ∀ y ∈ own, plOf y = x → y = r) : endF own x = if r ∈ own then some r else none := by
  by_cases h : r ∈ own
  · rw [if_pos h, endF]
    refine minOf_all _ (by simp [atPl, h, hx]) fun y hy => ?_
    simp only [atPl, List.mem_filter, decide_eq_true_eq] at hy
    exact hr y hy.1 hy.2
  · rw [if_neg h, endF, (minOf_none _).2]
    rw [atPl, List.filter_eq_nil_iff]
    intro y hy
    simp only [decide_eq_true_eq]
    intro e
    exact h (hr y hy e ▸ hy)
section
variable {t : Three} (ht : t.OK) {own : List RK} (ho : Only3 t own)
include ht ho
theorem chain3 : chainF own hA = chA t (t.r0 ∈ own) (t.r1 ∈ own) (t.r2 ∈ own) := by
  obtain ⟨a0, n0, p0, q0, _⟩ := ht.h0
  obtain ⟨a1, n1, p1, q1, _⟩ := ht.h1
  obtain ⟨a2, n2, p2, q2, _⟩ := ht.h2
  have hn : ∀ y ∈ own, y.au = hA → ∀ i, y.n = i → (i = 0 → y = t.r0) ∧ (i = 1 → y = t.r1) ∧ (i = 2 → y = t.r2) ∧ i ≠ 3 := fun y hy ha i hi => by
    rcases ho y hy ha with rfl | rfl | rfl
    · rw [n0] at hi; subst hi; simp
    · rw [n1] at hi; subst hi; simp
    · rw [n2] at hi; subst hi; simp
  have e0 : endF own ⟨hA, ((0 : Nat) : Int), pubV 1⟩ = if t.r0 ∈ own then some t.r0 else none := end3 t.r0 _ (by simp [plOf, a0, n0, p0]) fun y hy e => by
    simp only [plOf, Pl.mk.injEq] at e
    exact (hn y hy e.1 _ e.2.1).1 rfl
  have e1 : endF own ⟨hA, ((1 : Nat) : Int), pubV 2⟩ = if t.r1 ∈ own then some t.r1 else none := end3 t.r1 _ (by simp [plOf, a1, n1, p1]) fun y hy e => by
    simp only [plOf, Pl.mk.injEq] at e
    exact (hn y hy e.1 _ e.2.1).2.1 rfl
  have e2 : endF own ⟨hA, ((2 : Nat) : Int), pubV 3⟩ = if t.r2 ∈ own then some t.r2 else none := end3 t.r2 _ (by simp [plOf, a2, n2, p2]) fun y hy e => by
    simp only [plOf, Pl.mk.injEq] at e
    exact (hn y hy e.1 _ e.2.1).2.2.1 rfl
  have e3 : endF own ⟨hA, ((3 : Nat) : Int), pubV 4⟩ = none := by
    rw [endF, (minOf_none _).2]
    rw [atPl, List.filter_eq_nil_iff]
    intro y hy
    simp only [decide_eq_true_eq, plOf, Pl.mk.injEq]
    intro e
    exact (hn y hy e.1 _ e.2.1).2.2.2 rfl
  have er : rootF own hA = if t.r0 ∈ own then some (pubV 1) else none := by
    by_cases h : t.r0 ∈ own
    · rw [if_pos h, rootF]
      refine minOf_all _ (by simp only [rootsOf, List.mem_map, List.mem_filter, decide_eq_true_eq]; exact ⟨t.r0, ⟨h, a0, n0⟩, p0⟩) fun y hy => ?_
      simp only [rootsOf, List.mem_map, List.mem_filter, decide_eq_true_eq] at hy
      obtain ⟨r, ⟨hr, h1, h2⟩, rfl⟩ := hy
      rw [(hn r hr h1 _ h2).1 rfl, p0]
    · rw [if_neg h, rootF, (minOf_none _).2]
      rw [rootsOf, List.map_eq_nil_iff, List.filter_eq_nil_iff]
      intro y hy
      simp only [decide_eq_true_eq]
      rintro ⟨h1, h2⟩
      exact h ((hn y hy h1 _ h2).1 rfl ▸ hy)
  unfold chA
  by_cases h0 : t.r0 ∈ own
  · rw [chainF, er, if_pos h0, if_pos h0]
    show chainG own hA (997 + 1 + 1 + 1 + 1) 0 (pubV 1) = _
    rw [chainG, e0, if_pos h0]
    simp only [q0]
    rw [chainG, e1]
    by_cases h1 : t.r1 ∈ own
    · rw [if_pos h1, if_pos h1]
      simp only [q1]
      rw [chainG, e2]
      by_cases h2 : t.r2 ∈ own
      · rw [if_pos h2, if_pos h2]
        simp only [q2]
        rw [chainG, e3]
        rfl
      · rw [if_neg h2, if_neg h2]; rfl
    · rw [if_neg h1, if_neg h1]; rfl
  · rw [chainF, er, if_neg h0, if_neg h0]
end
/-- how a key may turn -/
def stepR (number : Int) (x x' : Option KK) : Prop := x = x' ∨ (x = none ∧ number ≠ 0) ∨ (x = none ∧ ∃ k, x' = some k ∧ k.p = pubV 1 ∧ 0 ≤ k.lim) ∨ ∃ k k', x = some k ∧ x' = some k' ∧ k.lim = -1 ∧ k'.p = k.p ∧ 0 ≤ k'.lim
theorem key3 {own : List RK} {l : List KK} (h : chainF own hA = l) (number : Int) : keyF own hA number = if 0 ≤ number then l[number.toNat]? else none := by rw [keyF_at, h]
theorem step3 {t : Three} (ht : t.OK) {own : List RK} (ho : Only3 t own) {r : RK} (hr : r = t.r0 ∨ r = t.r1 ∨ r = t.r2) (number : Int) (hn : 0 ≤ number ∧ number ≤ 3) : stepR number (keyF own hA number) (keyF (own ++ [r]) hA number) := by
  have ho' : Only3 t (own ++ [r]) := fun y hy ha => by
    rcases List.mem_append.1 hy with hy | hy
    · exact ho y hy ha
    · rw [List.mem_singleton.1 hy]; exact hr
  obtain ⟨a0, n0, p0, q0, l0⟩ := ht.h0
  obtain ⟨a1, n1, p1, q1, l1⟩ := ht.h1
  obtain ⟨a2, n2, p2, q2, l2⟩ := ht.h2
  have h01 : t.r0 ≠ t.r1 := fun e => by rw [e, n1] at n0; omega
  have h02 : t.r0 ≠ t.r2 := fun e => by rw [e, n2] at n0; omega
  have h12 : t.r1 ≠ t.r2 := fun e => by rw [e, n2] at n1; omega
  rw [key3 (chain3 ht ho), key3 (chain3 ht ho'), if_pos hn.1, if_pos hn.1]
  have hnn : number = 0 ∨ number = 1 ∨ number = 2 ∨ number = 3 := by omega
  unfold chA stepR
  rcases hr with rfl | rfl | rfl
  · have e0 : (t.r0 ∈ own ++ [t.r0]) = True := by simp
    have e1 : (t.r1 ∈ own ++ [t.r0]) = (t.r1 ∈ own) := by simp [Ne.symm h01]
    have e2 : (t.r2 ∈ own ++ [t.r0]) = (t.r2 ∈ own) := by simp [Ne.symm h02]
    simp only [e0, e1, e2, if_true]
    by_cases b0 : t.r0 ∈ own
    · left; simp [b0]
    · simp only [if_neg b0]
      rcases hnn with rfl | rfl | rfl | rfl
      · right; right; left; exact ⟨rfl, _, rfl, rfl, l0⟩
      · right; left; exact ⟨rfl, by omega⟩
      · right; left; exact ⟨rfl, by omega⟩
      · right; left; exact ⟨rfl, by omega⟩
  · have e0 : (t.r0 ∈ own ++ [t.r1]) = (t.r0 ∈ own) := by simp [h01]
    have e1 : (t.r1 ∈ own ++ [t.r1]) = True := by simp
    have e2 : (t.r2 ∈ own ++ [t.r1]) = (t.r2 ∈ own) := by simp [Ne.symm h12]
    simp only [e0, e1, e2, if_true]
    by_cases b0 : t.r0 ∈ own
    · by_cases b1 : t.r1 ∈ own
      · left; simp [b1]
      · simp only [if_pos b0, if_neg b1]
        rcases hnn with rfl | rfl | rfl | rfl
        · left; rfl
        · right; right; right; exact ⟨_, _, rfl, rfl, rfl, rfl, l1⟩
        · right; left; exact ⟨rfl, by omega⟩
        · right; left; exact ⟨rfl, by omega⟩
    · left; simp [b0]
  · have e0 : (t.r0 ∈ own ++ [t.r2]) = (t.r0 ∈ own) := by simp [h02]
    have e1 : (t.r1 ∈ own ++ [t.r2]) = (t.r1 ∈ own) := by simp [h12]
    have e2 : (t.r2 ∈ own ++ [t.r2]) = True := by simp
    simp only [e0, e1, e2, if_true]
    by_cases b0 : t.r0 ∈ own
    · by_cases b1 : t.r1 ∈ own
      · by_cases b2 : t.r2 ∈ own
        · left; simp [b2]
        · simp only [if_pos b0, if_pos b1, if_neg b2]
          rcases hnn with rfl | rfl | rfl | rfl
          · left; rfl
          · left; rfl
          · right; right; right; exact ⟨_, _, rfl, rfl, rfl, rfl, l2⟩
          · right; left; exact ⟨rfl, by omega⟩
      · left; simp [b1]
    · left; simp [b0]
/-- how a judgment may turn -/
theorem judge_step {own own' : List RK} {number : Int} {q : Pub} {leaf : Int} {i : Id} (hq : isKey q) (hl : 0 ≤ leaf) (h : stepR number (keyF own hA number) (keyF own' hA number)) :
    judgeF own' hA number q leaf i = judgeF own hA number q leaf i ∨ judgeF own hA number q leaf i = 1 ∨ (judgeF own hA number q leaf i = 0 ∧ judgeF own' hA number q leaf i = 3 ∧ ∃ x, keyF own' hA number = some x ∧ x.lim ≤ leaf) := by
  have hof : ofF q = hA → q = pubV 1 := fun e => of_inj hq (key_pub 1) e
  rcases h with h | ⟨h, hn⟩ | ⟨h, k, h', hk, hl0⟩ | ⟨k, k', h, h', hk, hp, hl0⟩
  · left; rw [judgeF, judgeF, h]
  · right; left; rw [judgeF, h]; simp [hn]
  · rw [judgeF, judgeF, h, h']
    simp only [hk]
    by_cases hn : number = 0
    · simp only [hn, ne_eq, not_true_eq_false, if_false]
      by_cases hqe : q = pubV 1
      · subst hqe
        have hf : fineB (pubV 1) := by decide
        simp only [not_true_eq_false, if_false, hf, true_and, if_true]
        by_cases hb : k.lim ≠ -1 ∧ (k.lim < leaf ∨ leaf = k.lim ∧ i ≠ k.next)
        · right; right; rw [if_pos hb]; first | exact ⟨rfl, rfl, k, rfl, by omega⟩ | exact ⟨rfl, k, rfl, by omega⟩ | exact ⟨k, rfl, by omega⟩ | (simp; omega)
        · left; rw [if_neg hb]
      · left
        rw [if_pos (fun e => hqe e.symm), if_neg (fun e => hqe (hof e.2))]
    · right; left; simp [hn]
  · rw [judgeF, judgeF, h, h']
    simp only [hp, hk]
    by_cases hqe : k.p = q
    · simp only [hqe, ne_eq, not_true_eq_false, if_false, false_and]
      by_cases hb : ¬ k'.lim = -1 ∧ (k'.lim < leaf ∨ leaf = k'.lim ∧ ¬ i = k'.next)
      · right; right; rw [if_pos hb]; first | exact ⟨rfl, rfl, k', rfl, by omega⟩ | exact ⟨rfl, k', rfl, by omega⟩ | exact ⟨k', rfl, by omega⟩ | (simp; omega)
      · left; rw [if_neg hb]
    · left; simp [hqe]
theorem other_same {own : List RK} {m : MV} (h : (rekR m).au ≠ hA) : chainF (addM own m) hA = chainF own hA := by
  rcases addM_cases own m with e | ⟨e, hr⟩
  · rw [e]
  · rw [e]
    exact chain_same (by rw [rootF, rootF, roots_snoc, if_neg (fun hc => h hc.1)]) fun x hx hc => h hc.1
theorem judge_other {own : List RK} {m : MV} (h : (rekR m).au ≠ hA) (number : Int) (q : Pub) (leaf : Int) (i : Id) : judgeF (addM own m) hA number q leaf i = judgeF own hA number q leaf i := by
  rw [judgeF, judgeF, keyF, keyF, other_same h]
theorem only_other {t : Three} {own : List RK} (ho : Only3 t own) {m : MV} (h : (rekR m).au ≠ hA) : Only3 t (addM own m) := by
  rcases addM_cases own m with e | ⟨e, hr⟩
  · rw [e]; exact ho
  · rw [e]
    intro y hy ha
    rcases List.mem_append.1 hy with hy | hy
    · exact ho y hy ha
    · rw [List.mem_singleton.1 hy] at ha; exact absurd ha h
theorem only_own {t : Three} {own : List RK} (ho : Only3 t own) {m : MV} (h : rekR m = t.r0 ∨ rekR m = t.r1 ∨ rekR m = t.r2) : Only3 t (addM own m) := by
  rcases addM_cases own m with e | ⟨e, hr⟩
  · rw [e]; exact ho
  · rw [e]
    intro y hy ha
    rcases List.mem_append.1 hy with hy | hy
    · exact ho y hy ha
    · rw [List.mem_singleton.1 hy]; exact h
theorem judge_own {t : Three} (ht : t.OK) {own : List RK} (ho : Only3 t own) {m : MV} (h : rekR m = t.r0 ∨ rekR m = t.r1 ∨ rekR m = t.r2) {number : Int} (hn : 0 ≤ number ∧ number ≤ 3) {q : Pub} (hq : isKey q) {leaf : Int} (hl : 0 ≤ leaf) (i : Id) :
    judgeF (addM own m) hA number q leaf i = judgeF own hA number q leaf i ∨ judgeF own hA number q leaf i = 1 ∨ (judgeF own hA number q leaf i = 0 ∧ judgeF (addM own m) hA number q leaf i = 3 ∧ ∃ x, keyF (addM own m) hA number = some x ∧ x.lim ≤ leaf) := by
  rcases addM_cases own m with e | ⟨e, hr⟩
  · left; rw [e]
  · rw [e]; exact judge_step hq hl (step3 ht ho h number hn)
end Go.Proofs.Ytheioljidangkaa
