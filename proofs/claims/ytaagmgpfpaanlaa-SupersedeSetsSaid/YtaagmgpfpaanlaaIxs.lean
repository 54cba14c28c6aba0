/- Lists of indices. No conditions. -/
import Derived.Test.YtaagmgpfpaanlaaPly
import Derived.Test.YtaagmgpfpaanlaaPth
namespace Go.Proofs.Ytaagmgpfpaanlaa
open Go Go.RowKit Go.Sx
set_option linter.unusedVariables false
set_option linter.unusedSimpArgs false
/-- an index and the row that is there -/
abbrev Ix := Nat × RR
abbrev ixL (q : Ix) : List Value := [I (q.1 : Nat)]
theorem ixL_len (q : Ix) : (ixL q).length = 1 := rfl
theorem ixL_one (q : Ix) : ∀ u ∈ ixL q, u.oneCell' = true := fun u hu => by rw [List.mem_singleton.1 hu]; rfl
theorem ix_get {cur : Array Value} {out : List Ix} (hcur : ∀ i, i < out.length * 1 → cur[i]? = (out.flatMap ixL)[i]?) {a : Nat} {q : Ix} (hq : out[a]? = some q) : GetAt cur (a * 1) (I (q.1 : Nat)) := ⟨by
  have ha := (List.getElem?_eq_some_iff.1 hq).1
  have h := flat_at ixL_len out a 0 q hq (by omega)
  rw [hcur _ (by omega)]
  simpa using h⟩
theorem ix_src {cs : Array Value} {o : Nat} {out : List Ix} (h : ∀ (j : Nat) (v : Value), (out.flatMap ixL)[j]? = some v → cs[o + j]? = some v) {a : Nat} {q : Ix} (hq : out[a]? = some q) : GetAt cs (o + a * 1) (I (q.1 : Nat)) := ⟨by
  have h1 := flat_at ixL_len out a 0 q hq (by omega)
  exact h _ _ (by simpa using h1)⟩
theorem ix_ins (out : List Ix) (a j : Nat) (y : RR) : (out.take a ++ [(j, y)] ++ out.drop a).map Prod.snd = (out.map Prod.snd).take a ++ (y :: (out.map Prod.snd).drop a) := by simp [List.map_take, List.map_drop]
theorem Chain.closed {own : List RR} {P : List Id} (h : Chain own P) {cur y : Id} {r : List Id} (hl : P[P.length - 1]? = some cur) (hs : succI own cur = y :: r) (hy : y ∈ P) : ∀ z ∈ P, ∃ y r, succI own z = y :: r ∧ y ∈ P := by
  intro z hz
  obtain ⟨k, hk, rfl⟩ := List.getElem_of_mem hz
  by_cases hk2 : k + 1 < P.length
  · obtain ⟨u, r2, h1, h2⟩ := h k P[k + 1] (List.getElem?_eq_getElem hk2)
    rw [List.getElem?_eq_getElem hk] at h1
    cases h1
    exact ⟨_, r2, h2, List.getElem_mem hk2⟩
  · have e : k = P.length - 1 := by omega
    subst e
    rw [List.getElem?_eq_getElem hk] at hl
    cases hl
    exact ⟨y, r, hs, hy⟩
/-- how far the reference's walk is: the path so far, the current one -/
def Walking (own : List RR) (goal : List Id) (path : List Id) (cur : Id) : Prop :=
  (Chain own (path ++ [cur]) ∧ (path ++ [cur]).Nodup ∧ (∀ y ∈ path ++ [cur], ∃ x ∈ own, x.id = y) ∧ pathF own (own.length + 1 - (path ++ [cur]).length) (path ++ [cur]) cur = goal) ∨
  (goal = [] ∧ ∃ C : List Id, cur ∈ C ∧ ∀ z ∈ C, ∃ y r, succI own z = y :: r ∧ y ∈ C)
theorem Walking.start {own : List RR} {x : RR} (hx : x ∈ own) : Walking own (pathI own x.id) [] x.id :=
  .inl ⟨fun k y h => by simp at h, by simp, fun y hy => by simp at hy; exact ⟨x, hx, hy.symm⟩, by rw [pathI, if_pos ⟨x, hx, rfl⟩]; rfl⟩
theorem Walking.step {own : List RR} {goal path : List Id} {cur y : Id} {r : List Id} (hn : (own.map RR.id).Nodup) (h : Walking own goal path cur) (hs : succI own cur = y :: r) : Walking own goal (path ++ [cur]) y := by
  rcases h with ⟨h1, h2, h3, h4⟩ | ⟨h1, C, h2, h3⟩
  · by_cases hy : y ∈ path ++ [cur]
    · rw [path_met h2 h3 hs hy] at h4
      exact .inr ⟨h4.symm, _, hy, h1.closed (by simp) hs hy⟩
    · obtain ⟨_, h5, h6, h7⟩ := path_step h2 h3 hn hs hy
      exact .inl ⟨h1.app (by simp) hs, h5, h6, by rw [← h7]; exact h4⟩
  · obtain ⟨y', r', h4, h5⟩ := h3 cur h2
    rw [hs] at h4
    cases h4
    exact .inr ⟨h1, C, h5, h3⟩
theorem Walking.done {own : List RR} {goal path : List Id} {cur : Id} (h : Walking own goal path cur) (hs : succI own cur = []) : goal = path ++ [cur] := by
  rcases h with ⟨h1, h2, h3, h4⟩ | ⟨h1, C, h2, h3⟩
  · rw [← h4, path_end h2 h3 hs]
  · obtain ⟨y', r', h4, h5⟩ := h3 cur h2
    rw [hs] at h4; cases h4
theorem Walking.long {own : List RR} {goal path : List Id} {cur : Id} (h : Walking own goal path cur) (hl : own.length < path.length) : goal = [] := by
  rcases h with ⟨h1, h2, h3, h4⟩ | ⟨h1, _⟩
  · have := path_len h2 h3
    rw [List.length_append] at this
    omega
  · exact h1
end Go.Proofs.Ytaagmgpfpaanlaa
