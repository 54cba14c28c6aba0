/- Roll-overs of outsiders change no chain. No conditions. -/
import Derived.Test.YtheioljidangkaaInj
import Derived.Test.YtheioljidangkaaRch
namespace Go.Proofs.Ytheioljidangkaa
open Go Go.RowKit Go.Sx
set_option linter.unusedVariables false
set_option linter.unusedSimpArgs false
instance (priority := low) HM.pre (b : Nat) (o : Obj) (ν η : Heap) [h : HM b o ν] : HM b o (ν ++ η) := ⟨List.mem_append_left _ h.go⟩
theorem pick_fine {m : MV} {r : Au} (h : fineB ⟨pick4 0 9 (-1) 8 m.leaf, r⟩) : pick4 0 9 (-1) 8 m.leaf = ((8 : Nat) : Int) := by
  obtain ⟨h1, h2⟩ := h
  unfold pick4 at *
  simp only at h1 h2
  repeat' split at h1
  all_goals first | omega | skip
  all_goals (repeat' split at h2)
  all_goals first | omega | skip
  all_goals simp [*]
theorem rek1_key (m : MV) : isKey (rek1 m).p := by
  unfold rek1
  split
  · exact key_pub _
  · exact key_pub _
theorem rek1_root (m : MV) : ∃ n : UInt8, (rek1 m).p.root = (pubV n).root := by
  unfold rek1
  split
  · exact ⟨_, rfl⟩
  · exact ⟨_, rfl⟩
theorem rek_key {m : MV} (h : fineB (rekR m).p) : isKey (rekR m).p := by
  unfold rekR at *
  split
  · exact rek1_key m
  · rename_i h1
    rw [if_neg h1] at h
    split
    · rename_i h3
      rw [if_pos h3] at h
      obtain ⟨n, hn⟩ := rek1_root m
      have := pick_fine h
      rw [this, hn]
      exact key_of n (by omega)
    · repeat' split
      all_goals exact rek1_key m
theorem addM_key {own : List RK} {m : MV} (h : ∀ r ∈ own, isKey r.p) : ∀ r ∈ addM own m, isKey r.p := by
  unfold addM addO
  split
  · rename_i he
    intro r hr
    rcases List.mem_append.1 hr with hr | hr
    · exact h r hr
    · rw [List.mem_singleton.1 hr]
      unfold addE at he
      split at he
      · omega
      · rename_i h0; exact rek_key (errR_ok (Decidable.of_not_not h0)).2.1
  · exact h
theorem fold_key : ∀ (ms : List MV) (own : List RK), (∀ r ∈ own, isKey r.p) → ∀ r ∈ ms.foldl addM own, isKey r.p
  | [], own, h => h
  | m :: ms, own, h => fold_key ms _ (addM_key h)
theorem buildF_key (ms : List MV) : ∀ r ∈ buildF ms, isKey r.p := fold_key ms [] (by simp)
theorem addM_cases (own : List RK) (m : MV) : addM own m = own ∨ (addM own m = own ++ [rekR m] ∧ okR (rekR m)) := by
  unfold addM addO
  split
  · rename_i he
    refine .inr ⟨rfl, ?_⟩
    unfold addE at he
    split at he
    · omega
    · rename_i h0; exact errR_ok (Decidable.of_not_not h0)
  · exact .inl rfl
theorem chainG_skip {own : List RK} {r : RK} {a : Au} : ∀ (f n : Nat) (q : Pub), (∀ x ∈ chainG own a f n q, ¬ (r.au = a ∧ x.n = r.n ∧ x.p = r.p)) → chainG (own ++ [r]) a f n q = chainG own a f n q
  | 0, n, q, _ => rfl
  | f + 1, n, q, h => by
    have hne : plOf r ≠ ⟨a, n, q⟩ := fun e => by
      simp only [plOf, Pl.mk.injEq] at e
      rw [chainG] at h
      cases he : endF own ⟨a, n, q⟩ with
      | none => rw [he] at h; exact h ⟨n, q, -1, id0⟩ (by simp) ⟨e.1, e.2.1.symm, e.2.2.symm⟩
      | some r' => rw [he] at h; exact h ⟨n, q, r'.leaf, r'.id⟩ (by simp) ⟨e.1, e.2.1.symm, e.2.2.symm⟩
    have he : endF (own ++ [r]) ⟨a, n, q⟩ = endF own ⟨a, n, q⟩ := by rw [endF, endF, atPl_skip hne]
    rw [chainG, chainG, he]
    rw [chainG] at h
    cases hc : endF own ⟨a, n, q⟩ with
    | none => rfl
    | some r' =>
      rw [hc] at h
      simp only
      rw [chainG_skip f (n + 1) r'.q (fun x hx => h x (List.mem_cons_of_mem _ hx))]
theorem root_spec {own : List RK} {a : Au} {p : Pub} (h : rootF own a = some p) : ∃ r ∈ own, r.au = a ∧ r.n = 0 ∧ r.p = p := by
  have := minOf_mem _ h
  simp only [rootsOf, List.mem_map, List.mem_filter, decide_eq_true_eq] at this
  obtain ⟨r, ⟨hr, h1, h2⟩, h3⟩ := this
  exact ⟨r, hr, h1, h2, h3⟩
theorem chain_head {own : List RK} {a : Au} {p : Pub} (h : rootF own a = some p) : ∃ x ∈ chainF own a, x.n = 0 ∧ x.p = p := by
  rw [chainF, h]
  show ∃ x ∈ chainG own a (1000 + 1) 0 p, _
  rw [chainG]
  cases he : endF own ⟨a, ((0 : Nat) : Int), p⟩ with
  | none => exact ⟨_, List.mem_singleton.2 rfl, rfl, rfl⟩
  | some r => exact ⟨_, List.mem_cons_self .., rfl, rfl⟩
theorem chain_nil {own : List RK} {a : Au} (h : chainF own a ≠ []) : ∃ p, rootF own a = some p := by
  cases hr : rootF own a with
  | none => rw [chainF, hr] at h; exact absurd rfl h
  | some p => exact ⟨p, rfl⟩
theorem chain_same {own : List RK} {r : RK} {a : Au} (hroot : rootF (own ++ [r]) a = rootF own a) (h : ∀ x ∈ chainF own a, ¬ (r.au = a ∧ x.n = r.n ∧ x.p = r.p)) : chainF (own ++ [r]) a = chainF own a := by
  rw [chainF, chainF, hroot]
  rw [chainF] at h
  cases hr : rootF own a with
  | none => rfl
  | some p => rw [hr] at h; exact chainG_skip _ _ _ h
theorem outsider {own : List RK} (hok : ∀ r ∈ own, okR r) (hkey : ∀ r ∈ own, isKey r.p) (m : MV) (a : Au)
    (h : ¬ ((rekR m).au = a ∧ ((∃ x ∈ chainF own a, x.n = (rekR m).n ∧ x.p = (rekR m).p) ∨ chainF own a = []))) : chainF (addM own m) a = chainF own a := by
  rcases addM_cases own m with e | ⟨e, hr⟩
  · rw [e]
  · rw [e]
    by_cases ha : (rekR m).au = a
    · have hin : ¬ ∃ x ∈ chainF own a, x.n = (rekR m).n ∧ x.p = (rekR m).p := fun hc => h ⟨ha, .inl hc⟩
      have hne : chainF own a ≠ [] := fun hc => h ⟨ha, .inr hc⟩
      obtain ⟨p, hp⟩ := chain_nil hne
      have hn : (rekR m).n ≠ 0 := fun h0 => by
        obtain ⟨r', hr', h1, h2, h3⟩ := root_spec hp
        have e1 := (hok r' hr').2.2.2.2.2 h2
        have e2 := hr.2.2.2.2.2 h0
        have e3 : (rekR m).p = r'.p := of_inj (rek_key hr.2.1) (hkey r' hr') (by rw [e1, e2, ha, h1])
        obtain ⟨x, hx, hx1, hx2⟩ := chain_head hp
        exact hin ⟨x, hx, by rw [hx1, h0], by rw [hx2, e3, h3]⟩
      refine chain_same (by rw [rootF, rootF, roots_snoc, if_neg (fun hc => hn hc.2)]) fun x hx hc => hin ⟨x, hx, hc.2⟩
    · exact chain_same (by rw [rootF, rootF, roots_snoc, if_neg (fun hc => ha hc.1)]) fun x hx hc => ha hc.1
end Go.Proofs.Ytheioljidangkaa
