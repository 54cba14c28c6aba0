/- What the reference's functions compute. No conditions. -/
import Derived.Test.YtaagmgpfpaanlaaChk
namespace Go.Proofs.Ytaagmgpfpaanlaa
open Go Go.RowKit Go.Sx
set_option linter.unusedVariables false
set_option linter.unusedSimpArgs false
def findR (id : Id) : List RR → Nat → Int
  | [], _ => -1
  | x :: r, k => if x.id = id then k else findR id r (k + 1)
theorem findR_first (id : Id) : ∀ (l : List RR) (k : Nat), (findR id l k = -1 ∧ ∀ x ∈ l, x.id ≠ id) ∨ ∃ i x, l[i]? = some x ∧ x.id = id ∧ findR id l k = ((k + i : Nat) : Int) ∧ ∀ y ∈ l.take i, y.id ≠ id
  | [], k => .inl ⟨rfl, by simp⟩
  | x :: r, k => by
    by_cases h : x.id = id
    · exact .inr ⟨0, x, rfl, h, by simp [findR, h], by simp⟩
    · rcases findR_first id r (k + 1) with ⟨h1, h2⟩ | ⟨i, y, h1, h2, h3, h4⟩
      · refine .inl ⟨by rw [findR, if_neg h]; exact h1, fun y hy => ?_⟩
        rcases List.mem_cons.1 hy with rfl | hy
        · exact h
        · exact h2 y hy
      · refine .inr ⟨i + 1, y, by simpa using h1, h2, by rw [findR, if_neg h, h3]; congr 1; omega, fun z hz => ?_⟩
        rw [List.take_succ_cons] at hz
        rcases List.mem_cons.1 hz with rfl | hz
        · exact h
        · exact h4 z hz
theorem findR_mem (id : Id) (l : List RR) : 0 ≤ findR id l 0 ↔ ∃ x ∈ l, x.id = id := by
  rcases findR_first id l 0 with ⟨h1, h2⟩ | ⟨i, x, h1, h2, h3, h4⟩
  · constructor
    · intro h; omega
    · rintro ⟨x, hx, he⟩; exact absurd he (h2 x hx)
  · constructor
    · intro _; exact ⟨x, List.mem_of_getElem? h1, h2⟩
    · intro _; omega
/-- a row is withdrawn among others -/
def ndB (l : List RR) (x : RR) : Bool := l.any fun y => decide (valB x y) || decide (outB y x)
theorem ins_at_sorted {α : Type} {lt : α → α → Prop} (tr : ∀ a b c, lt a b → lt b c → lt a c) (ir : ∀ a, ¬ lt a a) (nt : ∀ a b c, ¬ lt a b → ¬ lt b c → ¬ lt a c) {out : List α} {x : α} {i : Nat} (hs : out.Pairwise (fun a b => ¬ lt b a)) (hi : i ≤ out.length) (hb : i = 0 ∨ ∃ y, out[i - 1]? = some y ∧ ¬ lt x y) (ha : ∀ y ∈ out.drop i, lt x y) :
    (out.take i ++ (x :: out.drop i)).Pairwise (fun a b => ¬ lt b a) := by
  have h1 : out.take i ++ out.drop i = out := List.take_append_drop i out
  rw [← h1, List.pairwise_append] at hs
  rw [List.pairwise_append]
  have hx : ∀ a ∈ out.take i, ¬ lt x a := fun a hm => by
    rcases hb with rfl | ⟨y, hy, hxy⟩
    · simp at hm
    · by_cases hi0 : i = 0
      · subst hi0; simp at hm
      · have e : out.take i = out.take (i - 1) ++ [y] := by
          have := take_at hy
          rwa [show i - 1 + 1 = i by omega] at this
        rw [e] at hm
        rcases List.mem_append.1 hm with hm | hm
        · have h2 := hs.1
          rw [e, List.pairwise_append] at h2
          exact nt x y a hxy (h2.2.2 a hm y (by simp))
        · rw [List.mem_singleton.1 hm]; exact hxy
  refine ⟨hs.1, List.pairwise_cons.2 ⟨fun y hy h2 => ir _ (tr _ _ _ (ha y hy) h2), hs.2.1⟩, fun a hm b hb2 => ?_⟩
  rcases List.mem_cons.1 hb2 with rfl | hb2
  · exact hx a hm
  · exact hs.2.2 a hm b hb2
theorem ins_at_perm {α : Type} (out : List α) (x : α) (i : Nat) : (out.take i ++ (x :: out.drop i)).Perm (x :: out) :=
  List.perm_middle.trans (List.Perm.cons x (by rw [List.take_append_drop]))
theorem idLt_nt (a b c : Id) (h1 : ¬ idLt a b) (h2 : ¬ idLt b c) : ¬ idLt a c := fun h => by
  by_cases h3 : idLt b a
  · exact h2 (idLt_trans h3 h)
  · rw [idLt_total h1 h3] at h; exact h2 h
theorem ordLt_nt (a b c : RR) (h1 : ¬ ordLt a b) (h2 : ¬ ordLt b c) : ¬ ordLt a c := fun h => by
  by_cases h3 : ordLt b a
  · exact h2 (ordLt_trans h3 h)
  · exact h2 ((ordLt_congr (ordLt_total h1 h3)).1 h)
def idsR (l : List RR) (e : Bool) : List Id := sortI ((l.filter fun x => (!ndB l x) == e).map RR.id)
theorem where_map {own : List RR} (hn : (own.map RR.id).Nodup) (pr : Id → Bool) (q : RR → Bool) (h : ∀ x ∈ own, pr x.id = q x) : whereI own pr = sortI ((own.filter q).map RR.id) := by
  rw [whereI, List.filter_map]
  congr 2
  exact List.filter_congr fun x hx => h x hx
theorem wd_nd {own : List RR} (hn : (own.map RR.id).Nodup) {x : RR} (hx : x ∈ own) : wdB own x.id = ndB own x := wd_in hn hx
theorem ends_true {own : List RR} (h : chkE own = 0) : whereI own (fun id => !wdB own id) = idsR own true := by
  have hn := (chkE_nd h).1
  exact where_map hn _ _ fun x hx => by rw [wd_nd hn hx]; simp
theorem ends_false {own : List RR} (h : chkE own = 0) : whereI own (wdB own) = idsR own false := by
  have hn := (chkE_nd h).1
  exact where_map hn _ _ fun x hx => by rw [wd_nd hn hx]; simp
theorem filter_two {α : Type} (p : α → Bool) : ∀ l : List α, (l.filter fun x => !p x).length + (l.filter p).length = l.length
  | [] => rfl
  | x :: r => by
    have := filter_two p r
    cases h : p x <;> simp [h] <;> omega
theorem where_two (own : List RR) (p : Id → Bool) : (whereI own (fun id => !p id)).length + (whereI own p).length = own.length := by
  simp only [whereI, sortI_len]
  rw [filter_two p, List.length_map]
end Go.Proofs.Ytaagmgpfpaanlaa
