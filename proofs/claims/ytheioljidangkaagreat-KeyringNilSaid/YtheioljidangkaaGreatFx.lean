/- A faster check of the order of a drawn region. No conditions. -/
import Derived.Test.YtheioljidangkaaGreatSx
namespace Go.Sx
open Go Go.RowKit
set_option linter.unusedVariables false
set_option linter.unusedSimpArgs false
/-- what the order of a region looks at -/
structure Sk where
  dst : Option Nat
  looks : List Nat
  aft : List Nat
  deriving Repr, DecidableEq
def skOf (ops : Array Oper) (o : Oper) : Sk := ⟨o.dst, o.looksAt ops, (o.after.toList.filter (Region.binds .any)).map (·.on)⟩
def skel (l : List Oper) : List Sk := l.map (skOf l.toArray)
def readyS (sk : List Sk) (m : Nat) : List Nat := (List.range sk.length).filter fun i => !m.testBit i && match sk[i]? with | some s => s.aft.all (fun e => m.testBit e) | none => false
def apartS (x y : Sk) : Bool :=
  (match x.dst with
   | some d => !y.looks.contains d && y.dst != some d
   | none => true) &&
  (match y.dst with
   | some d => !x.looks.contains d
   | none => true)
def freeS (sk : List Sk) (m i : Nat) : Bool := match sk[i]? with
  | none => false
  | some si => (List.range sk.length).all fun j => j == i || m.testBit j || match sk[j]? with
    | some sj => sj.aft.any (fun e => e == i) || apartS si sj
    | none => true
def okS (sk : List Sk) : List (Nat × Kd) → Nat → Bool
  | [], m => (readyS sk m).isEmpty
  | (i, .r) :: q, m => (readyS sk m).contains i && freeS sk m i && okS sk q (m ||| 2 ^ i)
  | (i, .x false) :: q, m => (readyS sk m == [i]) && okS sk q (m ||| 2 ^ i)
  | _ :: _, _ => false
def hasL (q : List (Nat × Kd)) : Bool := q.any fun p => p.2.isL
structure Same (n : Nat) (m : Nat) (listed : Array Bool) : Prop where
  sz : listed.size = n
  f : ∀ k, listed.getD k false = m.testBit k
theorem Same.t {n m : Nat} {listed : Array Bool} (h : Same n m listed) {k : Nat} (hk : k < n) : listed.getD k true = m.testBit k := by
  rw [← h.f k]
  have := h.sz
  simp [show k < listed.size by omega]
theorem Same.set {n m : Nat} {listed : Array Bool} (h : Same n m listed) {i : Nat} (hi : i < n) : Same n (m ||| 2 ^ i) (listed.setIfInBounds i true) := by
  refine ⟨by simp [h.sz], fun k => ?_⟩
  have hs := h.sz
  rw [Nat.testBit_or, Nat.testBit_two_pow, ← h.f k]
  by_cases hk : i = k
  · subst hk; simp [show i < listed.size by omega]
  · simp [hk, Array.getD_eq_getD_getElem?, Array.getElem?_setIfInBounds_ne hk]
section
variable {l : List Oper} {sk : List Sk} (hsk : skel l = sk) {m : Nat} {listed : Array Bool} (hl : Same l.length m listed)
include hsk
theorem sk_len : sk.length = l.length := by rw [← hsk]; simp [skel]
theorem sk_at (i : Nat) : sk[i]? = (l[i]?).map (skOf l.toArray) := by rw [← hsk]; simp [skel]
include hl
theorem ready_eq : Region.ready .any l.toArray listed = readyS sk m := by
  unfold Region.ready readyS
  rw [sk_len hsk]
  simp only [List.size_toArray]
  refine List.filter_congr fun i hi => ?_
  rw [List.mem_range] at hi
  rw [hl.t hi, sk_at hsk]
  simp only [List.getElem?_toArray, List.getElem?_eq_getElem hi, Option.map_some, Option.getD_some]
  congr 1
  simp only [skOf, List.all_map, List.all_filter, ← Array.all_toList]
  congr 1
  funext e
  simp only [Function.comp, hl.f]
theorem free_eq (i : Nat) (h : freeS sk m i = true) : Region.free .any l.toArray listed i = true := by
  unfold freeS at h
  unfold Region.free
  rw [sk_at hsk] at h
  simp only [List.getElem?_toArray, List.size_toArray]
  cases hi : l[i]? with
  | none => rw [hi] at h; simp at h
  | some oi =>
    rw [hi] at h
    simp only [Option.map_some] at h
    simp only
    rw [List.all_eq_true] at h ⊢
    intro j hj
    have h1 := h j (by rw [sk_len hsk]; exact hj)
    rw [List.mem_range] at hj
    rw [sk_at hsk] at h1
    rw [hl.t hj]
    cases hj2 : l[j]? with
    | none => simp
    | some oj =>
      rw [hj2] at h1
      simp only [Option.map_some] at h1
      simp only [Bool.or_eq_true] at h1 ⊢
      rcases h1 with h1 | h1 | h1
      · exact .inl h1
      · refine .inr (.inl ?_)
        simp only [skOf, List.any_map, List.any_filter] at h1
        rw [← Array.any_toList]
        exact h1
      · exact .inr (.inr h1)
end
theorem okS_sound {l : List Oper} {sk : List Sk} (hsk : skel l = sk) {lt : Nat → Bool} (hlt : ∀ j, lt j = false) : ∀ (q : List (Nat × Kd)) (m : Nat) (listed : Array Bool), Same l.length m listed → okS sk q m = true → okQ .any l.toArray lt q listed = true
  | [], m, listed, hl, h => by
    rw [okS] at h
    rw [okQ, ready_eq hsk hl]; exact h
  | (i, .r) :: q, m, listed, hl, h => by
    simp only [okS, Bool.and_eq_true] at h
    have hi : i < l.length := by
      have := h.1.1
      rw [List.contains_iff_mem] at this
      have := (List.mem_filter.1 this).1
      rw [List.mem_range, sk_len hsk] at this
      exact this
    simp only [okQ, Bool.and_eq_true]
    refine ⟨⟨⟨by rw [ready_eq hsk hl]; exact h.1.1, free_eq hsk hl i h.1.2⟩, ?_⟩, okS_sound hsk hlt q _ _ (hl.set hi) h.2⟩
    rw [List.all_eq_true]
    intro j _
    simp [hlt j]
  | (i, .x false) :: q, m, listed, hl, h => by
    simp only [okS, Bool.and_eq_true] at h
    have hi : i < l.length := by
      have h1 : i ∈ readyS sk m := by have := h.1; rw [beq_iff_eq] at this; rw [this]; simp
      have := (List.mem_filter.1 h1).1
      rw [List.mem_range, sk_len hsk] at this
      exact this
    simp only [okQ, Bool.and_eq_true]
    exact ⟨by rw [ready_eq hsk hl]; exact h.1, okS_sound hsk hlt q _ _ (hl.set hi) h.2⟩
  | (i, .x true) :: q, m, listed, hl, h => by simp [okS] at h
  | (i, .b j) :: q, m, listed, hl, h => by simp [okS] at h
theorem okD_fast {l : List Oper} (sk : List Sk) (hsk : skel l = sk) {q : List (Nat × Kd)} (h1 : Region.noSelect l.toArray = true) (h2 : q.all (fun p => decide (p.1 < sk.length)) = true) (h3 : (qlen q == sk.length) = true) (h4 : noDefer l.toArray = true) (h5 : hasL q = false) (h6 : okS sk q 0 = true) : okD l.toArray q = true := by
  have hlen := sk_len hsk
  have hlt : ∀ j, ltOf q j = false := fun j => by
    rw [Bool.eq_false_iff]
    intro h
    unfold ltOf at h
    rw [List.any_eq_true] at h
    obtain ⟨p, hp, hq⟩ := h
    rw [Bool.and_eq_true] at hq
    unfold hasL at h5
    rw [List.any_eq_false] at h5
    exact h5 p hp hq.2
  unfold okD
  rw [hlen] at h2 h3
  simp only [List.size_toArray, Bool.and_eq_true]
  exact ⟨⟨⟨⟨h1, h2⟩, h3⟩, h4⟩, okS_sound hsk hlt q 0 _ ⟨by simp, fun k => by simp [Array.getD_eq_getD_getElem?, Array.getElem?_replicate]; split <;> simp⟩ h6⟩
end Go.Sx
