/- Paths. No conditions. -/
import Derived.Test.YtaagmgpfpaanlaaLaw
import Derived.Test.YtaagmgpfpaanlaaW5
namespace Go.Proofs.Ytaagmgpfpaanlaa
open Go Go.RowKit Go.Sx
set_option linter.unusedVariables false
set_option linter.unusedSimpArgs false
def pathF (own : List RR) : Nat → List Id → Id → List Id
  | 0, _, _ => []
  | n + 1, path, id => match succI own id with
    | [] => path
    | y :: _ => if y ∈ path then [] else pathF own n (path ++ [y]) y
def pathI (own : List RR) (id : Id) : List Id := if (∃ x ∈ own, x.id = id) then pathF own own.length [id] id else []
theorem succI_mem {own : List RR} (hn : (own.map RR.id).Nodup) {id y : Id} (hy : y ∈ succI own id) : ∃ x ∈ own, x.id = y := by
  by_cases h : ∃ x ∈ own, x.id = id
  · obtain ⟨x, hx, rfl⟩ := h
    rw [succI_in hn hx] at hy
    obtain ⟨z, hz, rfl⟩ := List.mem_map.1 hy
    exact ⟨z, (List.mem_filter.1 ((sortR_perm _).mem_iff.1 hz)).1, rfl⟩
  · rw [succI_out h] at hy; cases hy
theorem nd_sub_len {α : Type} [DecidableEq α] : ∀ {l m : List α}, l.Nodup → (∀ x ∈ l, x ∈ m) → l.length ≤ m.length
  | [], m, _, _ => by simp
  | x :: r, m, hn, hs => by
    have h1 := List.nodup_cons.1 hn
    have hx := hs x (by simp)
    have := nd_sub_len (l := r) (m := m.erase x) h1.2 (fun y hy => (List.mem_erase_of_ne (fun e => h1.1 (by rw [← e]; exact hy))).2 (hs y (by simp [hy])))
    rw [List.length_erase_of_mem hx] at this
    have hpos : 0 < m.length := List.length_pos_of_mem hx
    simp; omega
theorem path_len {own : List RR} {path : List Id} (hp : path.Nodup) (hs : ∀ y ∈ path, ∃ x ∈ own, x.id = y) : path.length ≤ own.length := by
  have := nd_sub_len hp (m := own.map RR.id) (fun y hy => by obtain ⟨x, hx, he⟩ := hs y hy; exact List.mem_map.2 ⟨x, hx, he⟩)
  simpa using this
/-- each one is the best successor of the one before -/
def Chain (own : List RR) (P : List Id) : Prop := ∀ k y, P[k + 1]? = some y → ∃ z r, P[k]? = some z ∧ succI own z = y :: r
theorem Chain.app {own : List RR} {P : List Id} (h : Chain own P) {id y : Id} {r : List Id} (hl : P[P.length - 1]? = some id) (hs : succI own id = y :: r) : Chain own (P ++ [y]) := by
  intro k z hz
  by_cases hk : k + 1 < P.length
  · rw [List.getElem?_append_left hk] at hz
    obtain ⟨u, r2, h1, h2⟩ := h k z hz
    exact ⟨u, r2, by rw [List.getElem?_append_left (by omega)]; exact h1, h2⟩
  · have hkl : k + 1 < (P ++ [y]).length := (List.getElem?_eq_some_iff.1 hz).1
    rw [List.length_append, List.length_singleton] at hkl
    have hke : k + 1 = P.length := by omega
    rw [hke, List.getElem?_append_right (Nat.le_refl _)] at hz
    simp at hz
    subst hz
    exact ⟨id, r, by rw [List.getElem?_append_left (by omega), show k = P.length - 1 by omega]; exact hl, hs⟩
theorem pathF_spec (own : List RR) : ∀ (n : Nat) (path : List Id) (id : Id), path[path.length - 1]? = some id → Chain own path → pathF own n path id = [] ∨ (Chain own (pathF own n path id) ∧ (pathF own n path id)[0]? = path[0]? ∧ ∃ z, (pathF own n path id)[(pathF own n path id).length - 1]? = some z ∧ succI own z = [])
  | 0, _, _, _, _ => .inl rfl
  | n + 1, path, id, hl, hc => by
    simp only [pathF]
    cases hs : succI own id with
    | nil => exact .inr ⟨hc, rfl, id, hl, hs⟩
    | cons y r =>
      simp only []
      by_cases hy : y ∈ path
      · rw [if_pos hy]; exact .inl rfl
      · rw [if_neg hy]
        have hp0 : 0 < path.length := by have := (List.getElem?_eq_some_iff.1 hl).1; omega
        rcases pathF_spec own n (path ++ [y]) y (by simp) (hc.app hl hs) with h | ⟨h1, h2, h3⟩
        · exact .inl h
        · exact .inr ⟨h1, by rw [h2, List.getElem?_append_left hp0], h3⟩
theorem pathI_spec {own : List RR} {x : RR} (hx : x ∈ own) : pathI own x.id = [] ∨ (Chain own (pathI own x.id) ∧ (pathI own x.id)[0]? = some x.id ∧ ∃ z, (pathI own x.id)[(pathI own x.id).length - 1]? = some z ∧ succI own z = []) := by
  rw [pathI, if_pos ⟨x, hx, rfl⟩]
  exact pathF_spec own _ [x.id] x.id rfl (fun k y h => by simp at h)
/-- what is the best successor of a row is outdone by none -/
theorem head_out {own : List RR} (hn : (own.map RR.id).Nodup) {u z : Id} {r : List Id} (h : succI own u = z :: r) : ∀ y ∈ own, ∀ x ∈ own, x.id = z → ¬ outB y x := by
  intro y hy x hx he ho
  by_cases hu : ∃ t ∈ own, t.id = u
  · obtain ⟨t, ht, rfl⟩ := hu
    rw [succI_in hn ht] at h
    cases hS : succR own t with
    | nil => rw [hS] at h; cases h
    | cons a S =>
      rw [hS] at h
      simp only [List.map_cons, List.cons.injEq] at h
      have hmem : ∀ q, q ∈ succR own t ↔ q ∈ own ∧ valB t q := fun q => by rw [succR, (sortR_perm _).mem_iff]; simp
      have ha := (hmem a).1 (by rw [hS]; simp)
      have hax : a = x := uniq hn ha.1 hx (h.1.trans he.symm)
      subst hax
      have hv := ha.2
      obtain ⟨o1, o2, o3, o4, o5, o6, o7⟩ := ho
      obtain ⟨v1, v2, v3, v4, v5, v6⟩ := hv
      have hvy : valB t y := by
        refine ⟨o2, o4.trans v2, fun e => o3 ((o4.trans v2).trans e), v4.trans o5.symm, ?_, ?_⟩
        · rcases o7 with o7 | o7
          · omega
          · rw [o7.1]; exact v5
        · rw [← v6, UInt8.and_assoc, o6]
      have hyS := (hmem y).2 ⟨hy, hvy⟩
      have hso := sortR_sorted (own.filter fun y => decide (valB t y))
      rw [show sortR (own.filter fun y => decide (valB t y)) = a :: S from hS] at hso
      rw [hS] at hyS
      rcases List.mem_cons.1 hyS with rfl | hyS
      · exact o1 rfl
      · exact (List.pairwise_cons.1 hso).1 y hyS o7
  · rw [succI_out hu] at h; cases h
theorem path_ends {own : List RR} (hn : (own.map RR.id).Nodup) {P : List Id} (hc : Chain own P) {z : Id} (hz : P[P.length - 1]? = some z) (hs : succI own z = []) (hl : 1 < P.length) : wdB own z = false := by
  by_cases h : ∃ x ∈ own, x.id = z
  · obtain ⟨x, hx, rfl⟩ := h
    rw [wd_nosucc hn hx (by rw [hs]; simp), List.any_eq_false]
    intro y hy
    obtain ⟨u, r, h1, h2⟩ := hc (P.length - 2) x.id (by rw [show P.length - 2 + 1 = P.length - 1 by omega]; exact hz)
    simpa using head_out hn h2 y hy x hx rfl
  · exact wd_out h
section
variable {α β : Type} {ek : α → Value} {en : β → Value} {κr : Option Nat} {P : Program} {n : Fm} {w0 : World} {S : List Nat} {σ : Slots} {η π : Heap} {l : List Oper} {N : Act → World → Prop} {q : List (Nat × Kd)} {late : Bool} {i : Nat}
  {ty : TypeId} {pos : String} {aft : Array Edge} {g : Option (Nat × Bool)}
/-- a literal map's entry -/
theorem ws_insert [DecidableEq α] {K E t : TypeId} {x ix y : Operand} {m : Nat} {es : Array MapEntry} {clock : Nat} {L : List (α × β)} {a : α} {b : β} {η' : Array MapEntry → Nat → Heap} [KeyEnc P K ek] (ht : P.underlying t = some (.map K E)) (h : MapIs ek en es clock L)
    (ho : opAt l i = some ⟨none, .insert t x ix y, ty, pos, aft, g⟩) (hg : gd l σ g = some true) (hx : ev σ x = some (.map (some m))) (hi : ev σ ix = some (ek a)) (hy : ev σ y = some (en b)) [hm : HM m (.map es clock) η] [hu : ∀ es' clock', HU m (.map es clock) (.map es' clock') η (η' es' clock')]
    (hb : w0.heap.size ≤ m ∨ m ∈ S) (hπ' : ∀ es' clock', ∀ p ∈ π, p ∈ η → p ∈ η' es' clock') (k : ∀ es' clock', MapIs ek en es' clock' (upd L a b) → WS κr P l π N n w0 S σ (η' es' clock') q) : WS κr P l π N n w0 S σ η ((i, .x late) :: q) :=
  ws_x ho hg fun hπ A w hs => by
    obtain ⟨es', clock', hrun, h'⟩ := run_update (P := P) ht h (hs.hp _ _ hm.go) a b
    have hrun' : (execOp A.eval ⟨none, .insert t x ix y, ty, pos, aft, g⟩).run P w = .ok .skip (World.setBlk w m (.map es' clock')) := by
      simp [execOp, hs.sl.ev hx, hs.sl.ev hi, hs.sl.ev hy, hrun]
    unfold OW
    rw [hrun']
    have hu' := hu es' clock'
    have h1 : St n w0 S σ (η' es' clock') A (World.setBlk w m (.map es' clock')) := ⟨hs.df, hs.sz, hs.sl, hu'.go w hs.hp hs.nd, by rw [hu'.nd]; exact hs.nd, hs.on.setBlk m _ hb⟩
    have hsub : ∀ p ∈ π, p ∈ η' es' clock' := fun p hp => hπ' es' clock' p hp (hπ p hp)
    exact ⟨fun _ => h1.hp.mono hsub, k es' clock' h' hsub A _ h1⟩
end
theorem path_step {own : List RR} {path : List Id} {cur y : Id} {r : List Id} (hp : path.Nodup) (hs : ∀ y ∈ path, ∃ x ∈ own, x.id = y) (hn : (own.map RR.id).Nodup) (hsu : succI own cur = y :: r) (hy : y ∉ path) : path.length < own.length ∧ (path ++ [y]).Nodup ∧ (∀ z ∈ path ++ [y], ∃ x ∈ own, x.id = z) ∧ pathF own (own.length + 1 - path.length) path cur = pathF own (own.length + 1 - (path ++ [y]).length) (path ++ [y]) y := by
  have h1 : (path ++ [y]).Nodup := by
    rw [List.nodup_append]
    exact ⟨hp, by simp, fun a ha b hb e => by simp at hb; subst hb; subst e; exact hy ha⟩
  have h2 : ∀ z ∈ path ++ [y], ∃ x ∈ own, x.id = z := fun z hz => by
    rcases List.mem_append.1 hz with hz | hz
    · exact hs z hz
    · rw [List.mem_singleton.1 hz]; exact succI_mem hn (by rw [hsu]; simp)
  have h3 := path_len h1 h2
  rw [List.length_append, List.length_singleton] at h3
  refine ⟨by omega, h1, h2, ?_⟩
  rw [List.length_append, List.length_singleton, show own.length + 1 - path.length = (own.length + 1 - (path.length + 1)) + 1 by omega, pathF, hsu]
  simp only []
  rw [if_neg hy]
theorem path_met {own : List RR} {path : List Id} {cur y : Id} {r : List Id} (hp : path.Nodup) (hs : ∀ y ∈ path, ∃ x ∈ own, x.id = y) (hsu : succI own cur = y :: r) (hy : y ∈ path) : pathF own (own.length + 1 - path.length) path cur = [] := by
  have h3 := path_len hp hs
  rw [show own.length + 1 - path.length = (own.length - path.length) + 1 by omega, pathF, hsu]
  simp only []
  rw [if_pos hy]
theorem path_end {own : List RR} {path : List Id} {cur : Id} (hp : path.Nodup) (hs : ∀ y ∈ path, ∃ x ∈ own, x.id = y) (hsu : succI own cur = []) : pathF own (own.length + 1 - path.length) path cur = path := by
  have h3 := path_len hp hs
  rw [show own.length + 1 - path.length = (own.length - path.length) + 1 by omega, pathF, hsu]
end Go.Proofs.Ytaagmgpfpaanlaa
