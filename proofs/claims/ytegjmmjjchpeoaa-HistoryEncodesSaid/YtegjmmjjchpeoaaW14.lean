/- Walks: maps.Equal, maps.Clone, Equal, Clone of a history, HistoryClones. No conditions. -/
import Derived.Test.YtegjmmjjchpeoaaW13
namespace Go.Proofs.Ytegjmmjjchpeoaa
open Go Go.RowKit Go.Sx
set_option linter.unusedSimpArgs false
set_option linter.unusedVariables false

/-- two maps hold the same -/
def EqM (L1 L2 : HMap) : Prop := L1.length = L2.length ∧ ∀ p ∈ L1, mlook L2 p.1 = some p.2
instance (L1 L2 : HMap) : Decidable (EqM L1 L2) := by unfold EqM; infer_instance
theorem EqM.self {L : HMap} (hn : (L.map Prod.fst).Nodup) : EqM L L := ⟨rfl, fun p hp => (lookup_some hn).2 hp⟩
instance (r : Option Nat) (n : Int) : Builds Try.prog 86 [(0, .map r), (1, I n)] #[.map r, I n] :=
  Builds.struct inferInstance Try.underlying86 (by kernel_rfl) #[(0, 1), (1, 1)] (by kernel_rfl) [(0, #[.map r]), (1, #[I n])] rfl (by simp) rfl
theorem perm_of_sub {α : Type} [DecidableEq α] : ∀ {l1 l2 : List α}, l1.Nodup → (∀ y ∈ l1, y ∈ l2) → l2.length ≤ l1.length → l1.Perm l2
  | [], l2, _, _, hl => by have : l2 = [] := List.eq_nil_of_length_eq_zero (by simpa using hl); subst this; exact List.Perm.refl _
  | x :: r, l2, hn, hs, hl => by
    obtain ⟨hx, hr⟩ := List.nodup_cons.1 hn
    have hm := hs x (by simp)
    have hp := List.perm_cons_erase hm
    refine (List.Perm.cons x (perm_of_sub hr (fun y hy => ?_) ?_)).trans hp.symm
    · exact (List.mem_erase_of_ne (fun e => hx (by rw [← e]; exact hy))).2 (hs y (by simp [hy]))
    · rw [List.length_erase_of_mem hm]; simp at hl; omega
theorem Rel.eqM {L1 L2 : HMap} {r1 r2 : List Ent} (h1 : Rel L1 r1) (h2 : Rel L2 r2) : EqM L1 L2 ↔ r1 = r2 := by
  constructor
  · rintro ⟨hl, hm⟩
    have hsub : ∀ y ∈ r1, y ∈ r2 := fun y hy => by
      have h := hm (y.id, y) (h1.perm.mem_iff.2 (List.mem_map.2 ⟨y, hy, rfl⟩))
      exact ((h2.look _ _).1 h).1
    have hnd : ∀ {L : HMap} {r : List Ent}, Rel L r → r.Nodup := fun h => h.srt.imp fun hlt e => by subst e; exact idLt_irrefl _ hlt
    have hlen : r1.length = r2.length := by rw [← h1.len, ← h2.len]; exact hl
    have hp : r1.Perm r2 := perm_of_sub (hnd h1) hsub (by omega)
    exact List.Perm.eq_of_pairwise (fun a b _ _ hab hba => absurd (idLt_trans hab hba) (idLt_irrefl _)) h1.srt h2.srt hp
  · rintro rfl
    refine ⟨by rw [h1.len, h2.len], fun p hp => ?_⟩
    obtain ⟨y, hy, rfl⟩ := List.mem_map.1 (h1.perm.mem_iff.1 hp)
    exact (h2.look _ _).2 ⟨hy, rfl⟩
set_option maxRecDepth 100000 in
set_option maxHeartbeats 1000000 in
theorem mapsEqual_ret (m1 m2 : Nat) (es1 es2 : Array MapEntry) (cl1 cl2 : Nat) (L1 L2 : HMap) (hL1 : MapIs idK entK es1 cl1 L1) (hL2 : MapIs idK entK es2 cl2 L2) (hne : m1 ≠ m2) (w : World) (hη : HpOK [(m1, .map es1 cl1), (m2, .map es2 cl2)] w) : Ret Try.prog 54 [.map (some m1), .map (some m2)] w [] (fun v _ => v = .bool (decide (EqM L1 L2))) := by
  refine enter (n := 34) (args := [.map (some m1), .map (some m2)]) [] [(m1, .map es1 cl1), (m2, .map es2 cl2)] Try.func54 rfl rfl rfl hη (by simp [hne]) ?_
  refine wc_seq ?_
  refine wc_plain [(0, .x true)] (by kernel_rfl) ?_
  refine ws_l rfl rfl rfl rfl (rd_assign rfl) ?_
  refine ws_nil ?_
  refine qe_then ?_
  refine wc_seq ?_
  refine wc_seq ?_
  refine wc_plain [(0, .x true), (1, .x true), (2, .x true), (3, .x true), (4, .x true)] (by kernel_rfl) ?_
  refine ws_l rfl rfl rfl rfl (rd_move rfl) ?_
  refine ws_l rfl rfl rfl rfl (rd_lenmap (ek := idK) (en := entK) hL1 Try.underlying84 rfl) ?_
  refine ws_l rfl rfl rfl rfl (rd_move rfl) ?_
  refine ws_l rfl rfl rfl rfl (rd_lenmap (ek := idK) (en := entK) hL2 Try.underlying84 rfl) ?_
  refine ws_lcmp rfl rfl rfl (rfl) (rfl) (rfl) ?_ ?_
  · intro h13
    refine ws_nil ?_
    refine qe_then ?_
    refine wc_true rfl ?_
    refine wc_seq ?_
    refine wc_plain [(0, .x true)] (by kernel_rfl) ?_
    refine ws_l rfl rfl rfl rfl (rd_assign rfl) ?_
    refine ws_nil ?_
    refine qe_then ?_
    refine wc_keep [(0, _), (1, _), (4, _)] rfl ?_
    refine wc_ret ?_
    refine qe_then_ret ?_
    refine qe_body _ (.inl rfl) (res1 rfl (RV.tmp rfl)) ?_
    exact ret_end fun w hp hn ho => by rw [decide_eq_false (fun h : EqM L1 L2 => h13 (by rw [h.1]))]
  · intro h13
    have hll : L1.length = L2.length := by omega
    refine ws_nil ?_
    refine qe_then ?_
    refine wc_false rfl ?_
    refine wc_skip ?_
    refine qe_then ?_
    refine wc_keep [(0, _), (1, _), (4, _)] rfl ?_
    refine wc_seq ?_
    refine wc_seq ?_
    refine wc_plain [(0, .x true), (1, .x true)] (by kernel_rfl) ?_
    refine ws_l rfl rfl rfl rfl (rd_move rfl) ?_
    refine ws_range Try.underlying84 rfl rfl rfl rfl ?_
    intro b15 hb15
    refine ws_nil ?_
    refine qe_then ?_
    refine wc_block ?_
    refine wc_loop (fun mz ac w1 => ∃ (seen : Array Nat) (R : HMap), mz = R.length ∧ (IterIs idK entK es1 seen R) ∧ (∀ q ∈ R, q ∈ L1) ∧ (∀ q ∈ L1, q ∈ R ∨ mlook L2 q.1 = some q.2) ∧ St 34 w [] [(1, .map (some m2)), (15, ptr b15)] ((b15, .mapIter (some m1) cl1 seen cl1) :: [(m1, .map es1 cl1), (m2, .map es2 cl2)]) ac w1) _ (fun ac w1 hs => ⟨#[], L1, rfl, (IterIs.start hL1), (fun _ h => h), (fun _ h => .inl h), st_sub hs _ rfl⟩) ?_
    rintro _ ac1 wl1 ⟨seen, R, rfl, hit, hsub, hall, hs1⟩
    refine wc_at hs1 ?_
    refine wc_seq ?_
    refine wc_plain [(0, .x true), (1, .x true)] (by kernel_rfl) ?_
    refine ws_next (ek := idK) (en := entK) hL1 hit rfl rfl rfl rfl (Nat.le_refl _) (.inl hb15) ?_ ?_
    · intro hR
      refine ws_l rfl rfl rfl rfl (rd_extract rfl) ?_
      refine ws_nil ?_
      refine qe_then ?_
      refine wc_seq ?_
      refine wc_false rfl ?_
      refine wc_exit ?_
      refine qe_then_exit ?_
      refine qe_then_exit ?_
      refine qe_block_exit ?_
      refine qe_then ?_
      refine wc_seq ?_
      refine wc_plain [(0, .x true)] (by kernel_rfl) ?_
      refine ws_l rfl rfl rfl rfl (rd_assign rfl) ?_
      refine ws_nil ?_
      refine qe_then ?_
      refine wc_ret ?_
      refine qe_body _ (.inl rfl) (res1 rfl (RV.tmp rfl)) ?_
      exact ret_end fun w hp hn ho => by rw [decide_eq_true (show EqM L1 L2 from ⟨by omega, fun q hq => (hall q hq).elim (fun h => by rw [hR] at h; cases h) id⟩)]
    · intro R1 pr R2 seen' hR hit' hcu
      refine ws_l rfl rfl rfl rfl (rd_extract rfl) ?_
      refine ws_nil ?_
      refine qe_then ?_
      refine wc_seq ?_
      refine wc_true rfl ?_
      refine wc_skip ?_
      refine qe_then ?_
      refine wc_block ?_
      refine wc_seq ?_
      refine wc_plain [(0, .x true), (1, .x true), (2, .x true), (3, .x true), (4, .x true), (5, .x true), (6, .x true)] (by kernel_rfl) ?_
      refine ws_l rfl rfl rfl rfl (rd_entry (ek := idK) (en := entK) hL1 hcu rfl) ?_
      refine ws_l rfl rfl rfl rfl (rd_extract rfl) ?_
      refine ws_l rfl rfl rfl rfl (rd_extract rfl) ?_
      refine ws_alloc rfl rfl rfl ?_
      intro b5 hb5
      refine ws_alloc rfl rfl rfl ?_
      intro b6 hb6
      refine ws_store rfl rfl rfl rfl (by first | exact .inl (by assumption) | exact .inr (by simp)) (fun _ h _ => by first | (cases h; done) | exact List.mem_cons_of_mem _ h | exact List.mem_cons_of_mem _ (List.mem_cons_of_mem _ h) | (simp at h ⊢; simp [h])) ?_
      refine ws_store rfl rfl rfl rfl (by first | exact .inl (by assumption) | exact .inr (by simp)) (fun _ h _ => by first | (cases h; done) | exact List.mem_cons_of_mem _ h | exact List.mem_cons_of_mem _ (List.mem_cons_of_mem _ h) | (simp at h ⊢; simp [h])) ?_
      refine ws_nil ?_
      refine qe_then ?_
      refine wc_seq ?_
      refine wc_plain [(0, .x true), (1, .x true), (2, .x true), (3, .x true), (4, .x true), (5, .x true), (6, .x true), (7, .x true), (8, .x true)] (by kernel_rfl) ?_
      refine ws_l rfl rfl rfl rfl (rd_move rfl) ?_
      refine ws_l rfl rfl rfl rfl (rd_load rfl) ?_
      cases hlk : mlook L2 pr.1 with
      | none =>
        refine ws_l rfl rfl rfl rfl (rd_look2_none (ek := idK) (en := entK) Try.underlying84 hL2 zero29 hlk rfl rfl) ?_
        refine ws_l rfl rfl rfl rfl (rd_move rfl) ?_
        refine ws_l rfl rfl rfl rfl (rd_extract rfl) ?_
        refine ws_l rfl rfl rfl rfl (rd_extract rfl) ?_
        refine ws_alloc rfl rfl rfl ?_
        intro b7 hb7
        refine ws_store rfl rfl rfl rfl (by first | exact .inl (by assumption) | exact .inr (by simp)) (fun _ h _ => by first | (cases h; done) | exact List.mem_cons_of_mem _ h | exact List.mem_cons_of_mem _ (List.mem_cons_of_mem _ h) | (simp at h ⊢; simp [h])) ?_
        refine ws_l rfl rfl rfl rfl (rd_assign rfl) ?_
        refine ws_nil ?_
        refine qe_then ?_
        refine wc_seq ?_
        refine wc_plain [(0, .x true), (1, .x true), (2, .x true), (3, .x true), (4, .x true), (5, .x true), (6, .x true)] (by kernel_rfl) ?_
        refine ws_l rfl rfl rfl rfl (rd_move rfl) ?_
        refine ws_l rfl rfl rfl rfl (rd_not rfl) ?_
        refine ws_l rfl rfl rfl rfl (rd_move rfl) ?_
        refine ws_xskip rfl rfl rfl rfl ?_
        refine ws_xskip rfl rfl rfl rfl ?_
        refine ws_xskip rfl rfl rfl rfl ?_
        refine ws_l rfl rfl rfl rfl (rd_pick_t rfl rfl) ?_
        refine ws_nil ?_
        refine qe_then ?_
        refine wc_true rfl ?_
        refine wc_seq ?_
        refine wc_plain [(0, .x true)] (by kernel_rfl) ?_
        refine ws_l rfl rfl rfl rfl (rd_assign rfl) ?_
        refine ws_nil ?_
        refine qe_then ?_
        refine wc_ret ?_
        refine qe_block_ret ?_
        refine qe_then_ret ?_
        refine qe_block_ret ?_
        refine qe_then_ret ?_
        refine qe_body _ (.inl rfl) (res1 rfl (RV.tmp rfl)) ?_
        exact ret_end fun w hp hn ho => by rw [decide_eq_false (fun h : EqM L1 L2 => by have h1 := h.2 pr (hsub pr (by rw [hR]; simp)); rw [hlk] at h1; cases h1)]
      | some e0 =>
        refine ws_l rfl rfl rfl rfl (rd_look2_some (ek := idK) (en := entK) Try.underlying84 hL2 hlk rfl rfl) ?_
        refine ws_l rfl rfl rfl rfl (rd_move rfl) ?_
        refine ws_l rfl rfl rfl rfl (rd_extract rfl) ?_
        refine ws_l rfl rfl rfl rfl (rd_extract rfl) ?_
        refine ws_alloc rfl rfl rfl ?_
        intro b7 hb7
        refine ws_store rfl rfl rfl rfl (by first | exact .inl (by assumption) | exact .inr (by simp)) (fun _ h _ => by first | (cases h; done) | exact List.mem_cons_of_mem _ h | exact List.mem_cons_of_mem _ (List.mem_cons_of_mem _ h) | (simp at h ⊢; simp [h])) ?_
        refine ws_l rfl rfl rfl rfl (rd_assign rfl) ?_
        refine ws_nil ?_
        refine qe_then ?_
        refine wc_seq ?_
        refine wc_plain [(0, .x true), (1, .x true), (2, .x true), (3, .x true), (4, .x true), (5, .x true), (6, .x true)] (by kernel_rfl) ?_
        refine ws_l rfl rfl rfl rfl (rd_move rfl) ?_
        refine ws_l rfl rfl rfl rfl (rd_not rfl) ?_
        refine ws_l rfl rfl rfl rfl (rd_move rfl) ?_
        refine ws_l rfl rfl rfl rfl (rd_load rfl) ?_
        refine ws_l rfl rfl rfl rfl (rd_load rfl) ?_
        refine ws_lp _ rfl rfl rfl rfl (rd_neent rfl rfl (eq_ent29 _ _) (by kernel_rfl)) ?_ ?_
        · intro h32
          refine ws_l rfl rfl rfl rfl (rd_pick_f rfl rfl) ?_
          refine ws_nil ?_
          refine qe_then ?_
          refine wc_true rfl ?_
          refine wc_seq ?_
          refine wc_plain [(0, .x true)] (by kernel_rfl) ?_
          refine ws_l rfl rfl rfl rfl (rd_assign rfl) ?_
          refine ws_nil ?_
          refine qe_then ?_
          refine wc_ret ?_
          refine qe_block_ret ?_
          refine qe_then_ret ?_
          refine qe_block_ret ?_
          refine qe_then_ret ?_
          refine qe_body _ (.inl rfl) (res1 rfl (RV.tmp rfl)) ?_
          exact ret_end fun w hp hn ho => by rw [decide_eq_false (fun h : EqM L1 L2 => by have h1 := h.2 pr (hsub pr (by rw [hR]; simp)); rw [hlk] at h1; cases h1; exact h32 rfl)]
        · intro h32
          refine ws_l rfl rfl rfl rfl (rd_pick_f rfl rfl) ?_
          refine ws_nil ?_
          refine qe_then ?_
          refine wc_false rfl ?_
          refine wc_skip ?_
          refine qe_block ?_
          exact qe_loop fun ac2 w2 hs2 => ⟨_, by subst hR; simp, seen', R1 ++ R2, rfl, (hit'), (fun q hq => hsub q (by rw [hR]; simp at hq ⊢; rcases hq with h | h <;> simp [h])), (fun q hq => (hall q hq).elim (fun h => by rw [hR] at h; simp at h; rcases h with h | rfl | h; exact .inl (by simp [h]); exact .inr (by rw [hlk, Decidable.of_not_not h32]); exact .inl (by simp [h])) .inr), st_sub hs2 _ rfl⟩
set_option maxRecDepth 100000 in
set_option maxHeartbeats 1000000 in
theorem equal_ret (p1 p2 : Nat) (c1 c2 : Int) (m1 m2 : Nat) (es1 es2 : Array MapEntry) (cl1 cl2 : Nat) (L1 L2 : HMap) (hL1 : MapIs idK entK es1 cl1 L1) (hL2 : MapIs idK entK es2 cl2 L2) (w : World) (hη : HpOK [(p1, .cells #[.map (some m1), I c1] 86 (0, 0)), (m1, .map es1 cl1), (p2, .cells #[.map (some m2), I c2] 86 (0, 0)), (m2, .map es2 cl2)] w) (hnd : (([(p1, .cells #[.map (some m1), I c1] 86 (0, 0)), (m1, .map es1 cl1), (p2, .cells #[.map (some m2), I c2] 86 (0, 0)), (m2, .map es2 cl2)] : Heap).map Prod.fst).Nodup) : Ret Try.prog 27 [ptr p1, ptr p2] w [] (fun v _ => v = .bool (decide (c1 = c2 ∧ EqM L1 L2))) := by
  refine enter (n := 34) (args := [ptr p1, ptr p2]) [] [(p1, .cells #[.map (some m1), I c1] 86 (0, 0)), (m1, .map es1 cl1), (p2, .cells #[.map (some m2), I c2] 86 (0, 0)), (m2, .map es2 cl2)] Try.func27 rfl rfl rfl hη hnd ?_
  refine wc_seq ?_
  refine wc_plain [(0, .x true)] (by kernel_rfl) ?_
  refine ws_l rfl rfl rfl rfl (rd_assign rfl) ?_
  refine ws_nil ?_
  refine qe_then ?_
  refine wc_seq ?_
  refine wc_seq ?_
  refine wc_plain [(0, .x true), (1, .x true), (2, .x true), (3, .x true), (4, .x true), (5, .x true)] (by kernel_rfl) ?_
  refine ws_l rfl rfl rfl rfl (rd_move rfl) ?_
  refine ws_l rfl rfl rfl rfl (rd_ptr_nil rfl rfl Try.underlying35 rfl) ?_
  refine ws_l rfl rfl rfl rfl (rd_move rfl) ?_
  refine ws_l rfl rfl rfl rfl (rd_move rfl) ?_
  refine ws_l rfl rfl rfl rfl (rd_ptr_nil rfl rfl Try.underlying35 rfl) ?_
  refine ws_l rfl rfl rfl rfl (rd_pick_f rfl rfl) ?_
  refine ws_nil ?_
  refine qe_then ?_
  refine wc_keep [(0, _), (1, _), (4, _), (10, _)] rfl ?_
  refine wc_false rfl ?_
  refine wc_skip ?_
  refine qe_then ?_
  refine wc_seq ?_
  refine wc_drawn mixedT _ (fun _ h => h) [(0, .r), (1, .r), (2, .r), (3, .r), (4, .r), (5, .r), (6, .r), (7, .r), (8, .r), (9, .r), (10, .r), (11, .r), (12, .r), (13, .r), (14, .r), (15, .r), (16, .r), (17, .r), (18, .x true), (19, .x true), (20, .x true)] (by kernel_rfl) ?_
  refine ws_r rfl rfl rfl rfl (rd_move rfl) ?_
  refine ws_r rfl rfl rfl rfl (rd_nil rfl) ?_
  refine ws_r rfl rfl rfl rfl (rd_fieldAddr rfl) ?_
  refine ws_r rfl rfl rfl rfl (rd_load rfl) ?_
  refine ws_r rfl rfl rfl rfl (rd_move rfl) ?_
  refine ws_r rfl rfl rfl rfl (rd_nil rfl) ?_
  refine ws_r rfl rfl rfl rfl (rd_fieldAddr rfl) ?_
  refine ws_r rfl rfl rfl rfl (rd_load rfl) ?_
  refine ws_rcmp rfl rfl rfl (rfl) (rfl) (rfl) ?_ ?_
  · intro h22
    refine ws_r rfl rfl rfl rfl (rd_move rfl) ?_
    refine ws_r rfl rfl rfl rfl (rd_move rfl) ?_
    refine ws_r rfl rfl rfl rfl (rd_nil rfl) ?_
    refine ws_r rfl rfl rfl rfl (rd_fieldAddr rfl) ?_
    refine ws_r rfl rfl rfl rfl (rd_load rfl) ?_
    refine ws_r rfl rfl rfl rfl (rd_move rfl) ?_
    refine ws_r rfl rfl rfl rfl (rd_nil rfl) ?_
    refine ws_r rfl rfl rfl rfl (rd_fieldAddr rfl) ?_
    refine ws_r rfl rfl rfl rfl (rd_load rfl) ?_
    refine ws_late rfl ?_
    refine ws_callp rfl rfl rfl rfl rfl (En.go) (fun w hp hn ho => mapsEqual_ret m1 m2 es1 es2 cl1 cl2 L1 L2 hL1 hL2 (by simp at hnd; omega) w (hp.mono (by simp))) ?_
    refine ws_l rfl rfl rfl rfl (rd_pick_t rfl rfl) ?_
    refine ws_l rfl rfl rfl rfl (rd_assign rfl) ?_
    refine ws_nil ?_
    refine qe_then ?_
    refine wc_keep [(4, _)] rfl ?_
    refine wc_ret ?_
    refine qe_body _ (.inl rfl) (res1 rfl (RV.tmp rfl)) ?_
    exact ret_end fun w hp hn ho => by (try simp only [cmpP, ne_eq, Decidable.not_not] at *); simp [*]
  · intro h22
    refine ws_r rfl rfl rfl rfl (rd_move rfl) ?_
    refine ws_rskip rfl rfl rfl rfl ?_
    refine ws_rskip rfl rfl rfl rfl ?_
    refine ws_rskip rfl rfl rfl rfl ?_
    refine ws_rskip rfl rfl rfl rfl ?_
    refine ws_rskip rfl rfl rfl rfl ?_
    refine ws_rskip rfl rfl rfl rfl ?_
    refine ws_rskip rfl rfl rfl rfl ?_
    refine ws_rskip rfl rfl rfl rfl ?_
    refine ws_late rfl ?_
    refine ws_xskip rfl rfl rfl rfl ?_
    refine ws_l rfl rfl rfl rfl (rd_pick_f rfl rfl) ?_
    refine ws_l rfl rfl rfl rfl (rd_assign rfl) ?_
    refine ws_nil ?_
    refine qe_then ?_
    refine wc_keep [(4, _)] rfl ?_
    refine wc_ret ?_
    refine qe_body _ (.inl rfl) (res1 rfl (RV.tmp rfl)) ?_
    exact ret_end fun w hp hn ho => by (try simp only [cmpP, ne_eq, Decidable.not_not] at *); simp [*]
set_option maxRecDepth 100000 in
set_option maxHeartbeats 1000000 in
theorem equal_ptr_nil (p : Nat) (w : World) : Ret Try.prog 27 [ptr p, .pointer none] w [] (fun v _ => v = .bool false) := by
  refine enter (n := 34) (args := [ptr p, .pointer none]) [] [] Try.func27 rfl rfl rfl (HpOK.nil w) (by simp) ?_
  refine wc_seq ?_
  refine wc_plain [(0, .x true)] (by kernel_rfl) ?_
  refine ws_l rfl rfl rfl rfl (rd_assign rfl) ?_
  refine ws_nil ?_
  refine qe_then ?_
  refine wc_seq ?_
  refine wc_seq ?_
  refine wc_plain [(0, .x true), (1, .x true), (2, .x true), (3, .x true), (4, .x true), (5, .x true)] (by kernel_rfl) ?_
  refine ws_l rfl rfl rfl rfl (rd_move rfl) ?_
  refine ws_l rfl rfl rfl rfl (rd_ptr_nil rfl rfl Try.underlying35 rfl) ?_
  refine ws_l rfl rfl rfl rfl (rd_move rfl) ?_
  refine ws_l rfl rfl rfl rfl (rd_move rfl) ?_
  refine ws_l rfl rfl rfl rfl (rd_nil_nil rfl rfl Try.underlying35 rfl) ?_
  refine ws_l rfl rfl rfl rfl (rd_pick_f rfl rfl) ?_
  refine ws_nil ?_
  refine qe_then ?_
  refine wc_keep [(0, _), (1, _), (4, _), (10, _)] rfl ?_
  refine wc_true rfl ?_
  refine wc_seq ?_
  refine wc_plain [(0, .x true), (1, .x true), (2, .x true), (3, .x true)] (by kernel_rfl) ?_
  refine ws_l rfl rfl rfl rfl (rd_move rfl) ?_
  refine ws_l rfl rfl rfl rfl (rd_move rfl) ?_
  refine ws_l rfl rfl rfl rfl (rd_ptr_nil rfl rfl Try.underlying35 rfl) ?_
  refine ws_l rfl rfl rfl rfl (rd_assign rfl) ?_
  refine ws_nil ?_
  refine qe_then ?_
  refine wc_ret ?_
  refine qe_then_ret ?_
  refine qe_body _ (.inl rfl) (res1 rfl (RV.tmp rfl)) ?_
  exact ret_end fun w hp hn ho => rfl
set_option maxRecDepth 100000 in
set_option maxHeartbeats 1000000 in
theorem mapsClone_ret (m : Nat) (es : Array MapEntry) (clock : Nat) (w : World) (hη : HpOK [(m, .map es clock)] w) : Ret Try.prog 55 [.map (some m)] w [] (fun v w' => ∃ m2, v = .map (some m2) ∧ w.heap.size ≤ m2 ∧ HpOK [(m2, .map es clock)] w') := by
  refine enter (n := 9) (args := [.map (some m)]) [] [(m, .map es clock)] Try.func55 rfl rfl rfl hη (by simp) ?_
  refine wc_seq ?_
  refine wc_plain [(0, .x true)] (by kernel_rfl) ?_
  refine ws_l rfl rfl rfl rfl (rd_assign rfl) ?_
  refine ws_nil ?_
  refine qe_then ?_
  refine wc_seq ?_
  refine wc_seq ?_
  refine wc_plain [(0, .x true), (1, .x true)] (by kernel_rfl) ?_
  refine ws_l rfl rfl rfl rfl (rd_move rfl) ?_
  refine ws_l rfl rfl rfl rfl (rd_mapnil rfl rfl Try.underlying84 rfl) ?_
  refine ws_nil ?_
  refine qe_then ?_
  refine wc_false rfl ?_
  refine wc_skip ?_
  refine qe_then ?_
  refine wc_seq ?_
  refine wc_plain [(0, .x true), (1, .x true), (2, .x true), (3, .x true), (4, .x true)] (by kernel_rfl) ?_
  refine ws_l rfl rfl rfl rfl (rd_move rfl) ?_
  refine ws_l rfl rfl rfl rfl (rd_iface rfl (run_iface_map Try.underlying84)) ?_
  refine ws_externN (v := fun b => .iface 84 (.map (some b))) (o := .map es clock) rfl rfl rfl Try.func68 (by kernel_rfl) (by kernel_rfl) (by kernel_rfl) (e := Extern.MapsClone.clone) (by kernel_rfl) rfl rfl (fun w hp => run_clone_map 84 (hp m (.map es clock) (by simp))) ?_
  intro b7 hb7
  refine ws_l rfl rfl rfl rfl (rd_assert rfl (run_assert_map Try.underlying84)) ?_
  refine ws_l rfl rfl rfl rfl (rd_assign rfl) ?_
  refine ws_nil ?_
  refine qe_then ?_
  refine wc_keep [(2, _)] rfl ?_
  refine wc_ret ?_
  refine qe_body _ (.inl rfl) (res1 rfl (RV.tmp rfl)) ?_
  exact ret_end fun w hp hn ho => ⟨b7, rfl, hb7, hp.mono (by simp)⟩
set_option maxRecDepth 100000 in
set_option maxHeartbeats 1000000 in
theorem clone_ret (p m : Nat) (cut : Int) (es : Array MapEntry) (clock : Nat) (hne : p ≠ m) (w : World) (hη : HpOK (hist p m cut es clock) w) : Ret Try.prog 28 [ptr p] w [] (fun v w' => ∃ p2 m2, v = ptr p2 ∧ w.heap.size ≤ p2 ∧ w.heap.size ≤ m2 ∧ p2 ≠ m2 ∧ HpOK (hist p2 m2 cut es clock) w') := by
  refine enter (n := 16) (args := [ptr p]) [] (hist p m cut es clock) Try.func28 rfl rfl rfl hη (by simp [hne]) ?_
  refine wc_seq ?_
  refine wc_plain [(0, .x true)] (by kernel_rfl) ?_
  refine ws_l rfl rfl rfl rfl (rd_assign rfl) ?_
  refine ws_nil ?_
  refine qe_then ?_
  refine wc_seq ?_
  refine wc_seq ?_
  refine wc_plain [(0, .x true), (1, .x true)] (by kernel_rfl) ?_
  refine ws_l rfl rfl rfl rfl (rd_move rfl) ?_
  refine ws_l rfl rfl rfl rfl (rd_ptr_nil rfl rfl Try.underlying35 rfl) ?_
  refine ws_nil ?_
  refine qe_then ?_
  refine wc_false rfl ?_
  refine wc_skip ?_
  refine qe_then ?_
  refine wc_seq ?_
  refine wc_drawn mixedT _ (fun _ h => h) [(0, .r), (1, .r), (2, .r), (3, .r), (5, .r), (6, .r), (7, .r), (8, .r), (4, .x false), (9, .x true), (10, .x true), (11, .x true)] (by kernel_rfl) ?_
  refine ws_r rfl rfl rfl rfl (rd_move rfl) ?_
  refine ws_r rfl rfl rfl rfl (rd_nil rfl) ?_
  refine ws_r rfl rfl rfl rfl (rd_fieldAddr rfl) ?_
  refine ws_r rfl rfl rfl rfl (rd_load rfl) ?_
  refine ws_r rfl rfl rfl rfl (rd_move rfl) ?_
  refine ws_r rfl rfl rfl rfl (rd_nil rfl) ?_
  refine ws_r rfl rfl rfl rfl (rd_fieldAddr rfl) ?_
  refine ws_r rfl rfl rfl rfl (rd_load rfl) ?_
  refine ws_call rfl rfl rfl rfl rfl (En.go) (fun w hp hn ho => mapsClone_ret m es clock w (hp.mono (by simp))) (fun _ h => by cases h) (fun hh q h => by first | (cases h; done) | exact hh q h) ?_
  rintro v9 wa wb hpo hon hon2 hp1 ⟨m2, rfl, hm20, hm2⟩
  refine ⟨[(m2, _)], hm2, by simp, fun b hb => .inl (by simp at hb; subst hb; exact hm20), ?_⟩
  replace hm20 := Nat.le_trans hon.size hm20
  simp only [List.cons_append, List.nil_append]
  refine ws_late rfl ?_
  refine ws_l rfl rfl rfl rfl (rd_build rfl) ?_
  refine ws_box rfl rfl rfl rfl ?_
  intro b15 hb15
  refine ws_l rfl rfl rfl rfl (rd_assign rfl) ?_
  refine ws_nil ?_
  refine qe_then ?_
  refine wc_keep [(2, _)] rfl ?_
  refine wc_ret ?_
  refine qe_body _ (.inl rfl) (res1 rfl (RV.tmp rfl)) ?_
  exact ret_end fun w hp hn ho => ⟨b15, m2, rfl, hb15, hm20, by simp at hn; omega, hp.mono (by simp)⟩
set_option maxRecDepth 100000 in
set_option maxHeartbeats 4000000 in
theorem hclones_ret (vl : Value) (νl : Heap) (ops : List POp) (hsrc : Src νl vl 37 ops.length (ops.flatMap opL)) (vm : Value) (opsm : List POp) (hsrcm : Src νl vm 37 opsm.length (opsm.flatMap opL)) (w : World) (hνl : HpOK νl w) (hndl : (νl.map Prod.fst).Nodup) : Ret Try.prog 8 [vl, vm] w [] (fun v _ => v = .bool true) := by
  refine enter (n := 110) (args := [vl, vm]) [] νl Try.func8 rfl rfl rfl hνl hndl ?_
  refine wc_seq ?_
  refine wc_plain [(0, .x true)] (by kernel_rfl) ?_
  refine ws_l rfl rfl rfl rfl (rd_assign rfl) ?_
  refine ws_nil ?_
  refine qe_then ?_
  refine wc_seq ?_
  refine wc_seq ?_
  refine wc_plain [(0, .x true), (1, .x true)] (by kernel_rfl) ?_
  refine ws_callp rfl rfl rfl rfl rfl (En.go) (fun w hp hn ho => known_ret w) ?_
  refine ws_l rfl rfl rfl rfl (rd_not rfl) ?_
  refine ws_nil ?_
  refine qe_then ?_
  refine wc_false rfl ?_
  refine wc_skip ?_
  refine qe_then ?_
  refine wc_seq ?_
  refine wc_plain [(0, .x true), (1, .x true), (2, .x true), (3, .x true), (4, .x true), (5, .x true), (6, .x true), (7, .x true), (8, .x true), (9, .x true), (10, .x true)] (by kernel_rfl) ?_
  refine ws_l rfl rfl rfl rfl (rd_move rfl) ?_
  refine ws_call rfl rfl rfl rfl rfl (En.go) (fun w hp hn ho => play_ret vl νl ops hsrc w (hp.mono (by intro q hq; simp [hq])) hndl) (fun _ h => by cases h) (fun hh q h => by first | (cases h; done) | exact hh q h) ?_
  rintro v19 wa wb hpo hon hon2 hp1 ⟨p, m, cut, es, clock, L, rows, vr, νr, rfl, hp0, hm0, hh, hhn, hL, hrel, hrl, hcut, hown, hchk⟩
  refine ⟨histC p m cut es clock νr, hh, hhn, fun b hb => .inl (by simp at hb; rcases hb with rfl | rfl | hb; exact hp0; exact hm0; exact hown.far b (by simpa using hb)), ?_⟩
  replace hp0 := Nat.le_trans hon.size hp0
  replace hm0 := Nat.le_trans hon.size hm0
  replace hown := hown.mono hon.size
  have hne : p ≠ m := by simp at hhn; omega
  simp only [histC, List.cons_append]
  refine ws_l rfl rfl rfl rfl (rd_move rfl) ?_
  refine ws_l rfl rfl rfl rfl (rd_extract rfl) ?_
  refine ws_l rfl rfl rfl rfl (rd_extract rfl) ?_
  refine ws_l rfl rfl rfl rfl (rd_extract rfl) ?_
  refine ws_l rfl rfl rfl rfl (rd_extract rfl) ?_
  refine ws_l rfl rfl rfl rfl (rd_assign rfl) ?_
  refine ws_l rfl rfl rfl rfl (rd_assign rfl) ?_
  refine ws_l rfl rfl rfl rfl (rd_assign rfl) ?_
  refine ws_l rfl rfl rfl rfl (rd_assign rfl) ?_
  refine ws_nil ?_
  refine qe_then ?_
  refine wc_keep [(1, _), (4, _), (5, _), (6, _), (7, _), (8, _)] rfl ?_
  refine wc_seq ?_
  refine wc_plain [(0, .x true), (1, .x true), (2, .x true), (3, .x true), (4, .x true), (5, .x true), (6, .x true), (7, .x true), (8, .x true), (9, .x true), (10, .x true)] (by kernel_rfl) ?_
  refine ws_l rfl rfl rfl rfl (rd_move rfl) ?_
  refine ws_call rfl rfl rfl rfl rfl (En.go) (fun w hp hn ho => play_ret vm νl opsm hsrcm w (hp.mono (by intro q hq; simp [hq])) hndl) (fun _ h => by cases h) (fun hh q h => by first | (cases h; done) | exact hh q h) ?_
  rintro v26 wa wb hpo hon hon2 hp1 ⟨pm, mm, cutm, esm, clockm, Lm, rowsm, vrm, νrm, rfl, hp0m, hm0m, hh, hhn, hLm, hrelm, hrlm, hcutm, hownm, hchkm⟩
  refine ⟨histC pm mm cutm esm clockm νrm, hh, hhn, fun b hb => .inl (by simp at hb; rcases hb with rfl | rfl | hb; exact hp0m; exact hm0m; exact hownm.far b (by simpa using hb)), ?_⟩
  replace hp0m := Nat.le_trans hon.size hp0m
  replace hm0m := Nat.le_trans hon.size hm0m
  replace hownm := hownm.mono hon.size
  have hnem : pm ≠ mm := by simp at hhn; omega
  simp only [histC, List.cons_append]
  refine ws_l rfl rfl rfl rfl (rd_move rfl) ?_
  refine ws_l rfl rfl rfl rfl (rd_extract rfl) ?_
  refine ws_l rfl rfl rfl rfl (rd_extract rfl) ?_
  refine ws_l rfl rfl rfl rfl (rd_extract rfl) ?_
  refine ws_l rfl rfl rfl rfl (rd_extract rfl) ?_
  refine ws_l rfl rfl rfl rfl (rd_assign rfl) ?_
  refine ws_l rfl rfl rfl rfl (rd_assign rfl) ?_
  refine ws_l rfl rfl rfl rfl (rd_assign rfl) ?_
  refine ws_l rfl rfl rfl rfl (rd_assign rfl) ?_
  refine ws_nil ?_
  refine qe_then ?_
  refine wc_keep [(1, _), (4, _), (5, _), (6, _), (7, _), (8, _), (9, _), (10, _), (11, _), (12, _)] rfl ?_
  refine wc_seq ?_
  refine wc_seq ?_
  refine wc_plain [(0, .x true), (1, .x true), (2, .x true), (3, .x true), (4, .x true), (5, .x true), (6, .x true), (7, .x true), (8, .x true), (9, .x true), (10, .x true), (11, .x true), (12, .x true), (13, .x true), (14, .x true), (15, .x true), (16, .x true), (17, .x true), (18, .x true), (19, .x true)] (by kernel_rfl) ?_
  refine ws_l rfl rfl rfl rfl (rd_move rfl) ?_
  refine ws_l rfl rfl rfl rfl (rd_not rfl) ?_
  refine ws_l rfl rfl rfl rfl (rd_move rfl) ?_
  refine ws_l rfl rfl rfl rfl (rd_move rfl) ?_
  refine ws_l rfl rfl rfl rfl (rd_not rfl) ?_
  refine ws_l rfl rfl rfl rfl (rd_pick_f rfl rfl) ?_
  refine ws_l rfl rfl rfl rfl (rd_move rfl) ?_
  refine ws_l rfl rfl rfl rfl (rd_move rfl) ?_
  refine ws_l rfl rfl rfl rfl (rd_move rfl) ?_
  refine ws_callp rfl rfl rfl rfl rfl (En.go) (fun w hp hn ho => equal_ret p pm cut cutm m mm es esm clock clockm L Lm hL hLm w (hp.mono (by intro q hq; simp at hq ⊢; rcases hq with h | h | h | h <;> simp [h])) (by simp at hn ⊢; omega)) ?_
  refine ws_l rfl rfl rfl rfl (rd_move rfl) ?_
  refine ws_l rfl rfl rfl rfl (rd_move rfl) ?_
  refine ws_lcmp rfl rfl rfl (rfl) (rfl) (rfl) ?_ ?_
  · intro h43
    refine ws_l rfl rfl rfl rfl (rd_move rfl) ?_
    refine ws_l rfl rfl rfl rfl (rd_move rfl) ?_
    refine ws_l rfl rfl rfl rfl (rd_move rfl) ?_
    refine ws_callp rfl rfl rfl rfl rfl (En.go) (fun w hp hn ho => same_ret _ νr rows (hown.mono (Nat.zero_le _)) _ νrm rowsm (hownm.mono (Nat.zero_le _)) (by omega) w (hp.mono (by intro q hq; simp at hq ⊢; rcases hq with h | h <;> simp [h])) (SubH.nd hn)) ?_
    refine ws_l rfl rfl rfl rfl (rd_pick_t rfl rfl) ?_
    refine ws_l rfl rfl rfl rfl (rd_bneq rfl rfl Try.underlying4 (by (try simp only [cmpP, ne_eq, Decidable.not_not] at *); simp [hrel.eqM hrelm, *])) ?_
    refine ws_l rfl rfl rfl rfl (rd_pick_f rfl rfl) ?_
    refine ws_nil ?_
    refine qe_then ?_
    refine wc_keep [(1, _), (4, _), (5, _), (6, _), (7, _), (50, _)] rfl ?_
    refine wc_false rfl ?_
    refine wc_skip ?_
    refine qe_then ?_
    refine wc_seq ?_
    refine wc_plain [(0, .x true), (1, .x true), (2, .x true)] (by kernel_rfl) ?_
    refine ws_l rfl rfl rfl rfl (rd_move rfl) ?_
    refine ws_call rfl rfl rfl rfl rfl (En.go) (fun w hp hn ho => clone_ret p m cut es clock hne w (hp.mono (by intro q hq; simp at hq ⊢; rcases hq with h | h <;> simp [h]))) (fun _ h => by cases h) (fun hh q h => by first | (cases h; done) | exact hh q h) ?_
    rintro v52 wa wb hpo hon hon2 hp1 ⟨p2, m2, rfl, hp20, hm20, hne2, hh2⟩
    refine ⟨hist p2 m2 cut es clock, hh2, by simp [hne2], fun b hb => .inl (by simp at hb; rcases hb with rfl | rfl; exact hp20; exact hm20), ?_⟩
    replace hp20 := Nat.le_trans hon.size hp20
    replace hm20 := Nat.le_trans hon.size hm20
    simp only [hist, List.cons_append, List.nil_append]
    refine ws_l rfl rfl rfl rfl (rd_assign rfl) ?_
    refine ws_nil ?_
    refine qe_then ?_
    refine wc_seq ?_
    refine wc_seq ?_
    refine wc_plain [(0, .x true), (1, .x true), (2, .x true), (3, .x true), (4, .x true), (5, .x true), (6, .x true), (7, .x true)] (by kernel_rfl) ?_
    refine ws_l rfl rfl rfl rfl (rd_move rfl) ?_
    refine ws_l rfl rfl rfl rfl (rd_ptr_nil rfl rfl Try.underlying35 rfl) ?_
    refine ws_l rfl rfl rfl rfl (rd_move rfl) ?_
    refine ws_l rfl rfl rfl rfl (rd_move rfl) ?_
    refine ws_l rfl rfl rfl rfl (rd_move rfl) ?_
    refine ws_callp rfl rfl rfl rfl rfl (En.go) (fun w hp hn ho => (equal_ret p2 p cut cut m2 m es es clock clock L L hL hL w (hp.mono (by intro q hq; simp at hq ⊢; rcases hq with h | h | h | h <;> simp [h])) (by simp at hn ⊢; omega)).mono (fun _ h => h) (fun v w1 _ h => by rw [h, decide_eq_true ⟨rfl, EqM.self hrel.keys⟩])) ?_
    refine ws_l rfl rfl rfl rfl (rd_not rfl) ?_
    refine ws_l rfl rfl rfl rfl (rd_pick_f rfl rfl) ?_
    refine ws_nil ?_
    refine qe_then ?_
    refine wc_keep [(1, _), (4, _), (5, _), (6, _), (7, _), (13, _), (60, _)] rfl ?_
    refine wc_false rfl ?_
    refine wc_skip ?_
    refine qe_then ?_
    refine wc_seq ?_
    refine wc_seq ?_
    refine wc_plain [(0, .x true)] (by kernel_rfl) ?_
    refine ws_l rfl rfl rfl rfl (rd_assign rfl) ?_
    refine ws_nil ?_
    refine qe_then ?_
    refine wc_block ?_
    refine wc_loop (fun mz ac w1 => ∃ (j : Nat) (es1 : Array MapEntry) (cl1 : Nat) (L1 : HMap) (cut1 : Int), mz = 40 - j ∧ (j ≤ 40) ∧ (MapIs idK entK es1 cl1 L1) ∧ (L1.length ≤ 40 + 2 * j) ∧ St 110 w [] [(1, vm), (5, ptr p), (6, vr), (7, I cut), (13, ptr p2), (14, I j)] ((p2, .cells #[.map (some m2), I cut1] 86 (0, 0)) :: (m2, .map es1 cl1) :: ((p, .cells #[.map (some m), I cut] 86 (0, 0)) :: (m, .map es clock) :: (νr ++ νl))) ac w1) _ (fun ac w1 hs => ⟨0, es, clock, L, cut, rfl, (by omega), (hL), (by rw [hrel.len]; omega), st_sub hs _ rfl⟩) ?_
    rintro _ ac1 wl1 ⟨j, es1, cl1, L1, cut1, rfl, hj, hL1, hl1, hs1⟩
    refine wc_at hs1 ?_
    refine wc_seq ?_
    refine wc_seq ?_
    refine wc_plain [(0, .x true), (1, .x true), (2, .x true), (3, .x true), (4, .x true), (5, .x true), (6, .x true), (7, .x true)] (by kernel_rfl) ?_
    refine ws_l rfl rfl rfl rfl (rd_move rfl) ?_
    refine ws_l rfl rfl rfl rfl (rd_move rfl) ?_
    refine ws_l rfl rfl rfl rfl (rd_lenS hsrcm rfl Try.underlying34) ?_
    refine ws_lcmp rfl rfl rfl (rfl) (rfl) (rfl) ?_ ?_
    · intro h64
      refine ws_l rfl rfl rfl rfl (rd_move rfl) ?_
      refine ws_l rfl rfl rfl rfl (rd_move rfl) ?_
      refine ws_lcmp rfl rfl rfl (rfl) (rfl) (rfl) ?_ ?_
      · intro h67
        refine ws_l rfl rfl rfl rfl (rd_pick_t rfl rfl) ?_
        refine ws_nil ?_
        refine qe_then ?_
        refine wc_true rfl ?_
        refine wc_skip ?_
        refine qe_then ?_
        refine wc_seq ?_
        refine wc_block ?_
        refine wc_seq ?_
        refine wc_plain [(0, .x true), (1, .x true), (2, .x true), (3, .x true), (4, .x true), (5, .x true), (6, .x true), (7, .x true)] (by kernel_rfl) ?_
        refine ws_l rfl rfl rfl rfl (rd_move rfl) ?_
        refine ws_l rfl rfl rfl rfl (rd_move rfl) ?_
        refine ws_l rfl rfl rfl rfl (rd_move rfl) ?_
        obtain ⟨bl, ol, cl, cs, El, frl, rfl, hml, hcs⟩ := Src.opened hsrcm (by omega)
        have hmi : HM bl (.cells cs El frl) νl := ⟨hml⟩
        obtain ⟨o, ho⟩ := at_ex (l := opsm) (j := j) (by omega)
        obtain ⟨ato, ato2⟩ := op_at hcs ho
        refine ws_l rfl rfl rfl rfl (rd_index (ol + j * 37) rfl rfl Try.underlying34 Try.sizeOf44 ⟨by omega, by omega⟩ (by simp)) ?_
        refine ws_l rfl rfl rfl rfl (rd_fieldAddr rfl) ?_
        refine ws_l rfl rfl rfl rfl (rd_load rfl) ?_
        refine ws_callp rfl rfl rfl rfl rfl (En.go) (fun w hp hn ho => to_ret _ w) ?_
        refine ws_call rfl rfl rfl rfl rfl (En.go) (fun w hp hn ho => add_ret p2 m2 cut1 es1 cl1 L1 hL1 hne2 (by omega) o.x w (hp.mono (by intro q hq; simp at hq ⊢; rcases hq with h | h <;> simp [h]))) (fun b hb => .inl (by simp at hb; subst hb; exact hm20)) (fun hh q h => by first | (cases h; done) | exact hh q h) ?_
        rintro v78 wa wb hpo hon hon2 hp1 ⟨-, es2, cl2, hmx, hL2⟩
        refine ⟨[(m2, .map es2 cl2)], fun b o hm => by simp at hm; obtain ⟨rfl, rfl⟩ := hm; exact hmx, by simp, by simp, ?_⟩
        refine ws_nil ?_
        refine qe_then ?_
        refine wc_seq ?_
        refine wc_plain [(0, .x true), (1, .x true), (2, .x true), (3, .x true), (4, .x true), (5, .x true), (6, .x true), (7, .x true)] (by kernel_rfl) ?_
        refine ws_l rfl rfl rfl rfl (rd_move rfl) ?_
        refine ws_l rfl rfl rfl rfl (rd_move rfl) ?_
        refine ws_l rfl rfl rfl rfl (rd_move rfl) ?_
        refine ws_l rfl rfl rfl rfl (rd_index (ol + j * 37) rfl rfl Try.underlying34 Try.sizeOf44 ⟨by omega, by omega⟩ (by simp)) ?_
        refine ws_l rfl rfl rfl rfl (rd_fieldAddr rfl) ?_
        refine ws_l rfl rfl rfl rfl (rd_fieldAddr rfl) ?_
        refine ws_l rfl rfl rfl rfl (rd_load rfl) ?_
        refine ws_call rfl rfl rfl rfl rfl (En.go) (fun w hp hn ho => setgone_ret p2 m2 cut1 es2 cl2 _ hL2 hne2 o.x.id w (hp.mono (by intro q hq; simp at hq ⊢; rcases hq with h | h <;> simp [h]))) (fun b hb => .inl (by simp at hb; subst hb; exact hm20)) (fun hh q h => by first | (cases h; done) | exact hh q h) ?_
        rintro v86 wa wb hpo hon hon2 hp1 ⟨-, es3, cl3, hmx, hL3⟩
        refine ⟨[(m2, .map es3 cl3)], fun b o hm => by simp at hm; obtain ⟨rfl, rfl⟩ := hm; exact hmx, by simp, by simp, ?_⟩
        refine ws_nil ?_
        refine qe_then ?_
        refine wc_plain [(0, .x true), (1, .x true), (2, .x true), (3, .x true), (4, .x true), (5, .x true), (6, .x true), (7, .x true)] (by kernel_rfl) ?_
        refine ws_l rfl rfl rfl rfl (rd_move rfl) ?_
        refine ws_l rfl rfl rfl rfl (rd_move rfl) ?_
        refine ws_l rfl rfl rfl rfl (rd_move rfl) ?_
        refine ws_l rfl rfl rfl rfl (rd_index (ol + j * 37) rfl rfl Try.underlying34 Try.sizeOf44 ⟨by omega, by omega⟩ (by simp)) ?_
        refine ws_l rfl rfl rfl rfl (rd_fieldAddr rfl) ?_
        refine ws_l rfl rfl rfl rfl (rd_fieldAddr rfl) ?_
        refine ws_l rfl rfl rfl rfl (rd_load rfl) ?_
        refine ws_call rfl rfl rfl rfl rfl (En.go) (fun w hp hn ho => forget_ret p2 m2 cut1 es3 cl3 _ hL3 hne2 (by have h1 := Rel.addLen (L := L1) o.x; have h2 := goneL_len (L := addL L1 o.x) o.x.id; omega) o.x.arr w (hp.mono (by intro q hq; simp at hq ⊢; rcases hq with h | h <;> simp [h]))) (fun b hb => .inl (by simp at hb; rcases hb with rfl | rfl; exact hp20; exact hm20)) (fun hh q h => by first | (cases h; done) | exact hh q h) ?_
        rintro v94 wa wb hpo hon hon2 hp1 ⟨u27, ν27, gone, es4, L4, cut2, rfl, hown27, hν27, hh27, hL4, hLe, hc4, hgp, hgs⟩
        have hpm2 : p2 < wa.heap.size ∧ m2 < wa.heap.size := ⟨hpo.lt (b := p2) (o := .cells #[.map (some m2), I cut1] 86 (0, 0)) (by simp), hpo.lt (b := m2) (o := .map es3 cl3) (by simp)⟩
        refine ⟨ν27 ++ hist p2 m2 cut2 es4 cl3, hν27.append hh27, nodup_app hown27.nd (by simp [hne2]) hown27.far (by simp; exact hpm2), fun b hb => by rw [List.map_append, List.mem_append] at hb; exact hb.elim (fun h => .inl (hown27.far b h)) (fun h => .inr (by simpa using h)), ?_⟩
        have hl4 : L4.length ≤ L1.length + 2 := by have h1 := Rel.addLen (L := L1) o.x; have h2 := goneL_len (L := addL L1 o.x) o.x.id; rw [hLe]; exact Nat.le_trans (List.length_filter_le _ _) (by omega)
        rw [List.append_assoc]; simp only [hist, List.cons_append, List.nil_append]
        refine ws_nil ?_
        refine qe_block ?_
        refine qe_then ?_
        refine wc_plain [(0, .x true), (1, .x true), (2, .x true)] (by kernel_rfl) ?_
        refine ws_l rfl rfl rfl rfl (rd_move rfl) ?_
        refine ws_l rfl rfl rfl rfl (rd_arith (((j + 1 : Nat) : Int)) rfl rfl rfl (by rw [wrap_i64 _ (by omega) (by omega)]; omega)) ?_
        refine ws_l rfl rfl rfl rfl (rd_assign rfl) ?_
        refine ws_nil ?_
        exact qe_loop fun ac2 w2 hs2 => ⟨_, by omega, j + 1, es4, cl3, L4, cut2, rfl, (by omega), (hL4), (by omega), st_sub hs2 _ rfl⟩
      · intro h67
        refine ws_l rfl rfl rfl rfl (rd_pick_t rfl rfl) ?_
        refine ws_nil ?_
        refine qe_then ?_
        refine wc_false rfl ?_
        refine wc_exit ?_
        refine qe_then_exit ?_
        refine qe_then_exit ?_
        refine qe_block_exit ?_
        refine qe_then ?_
        refine wc_keep [(5, _), (6, _), (7, _)] rfl ?_
        refine wc_seq ?_
        refine wc_plain [(0, .x true), (1, .x true), (2, .x true), (3, .x true), (4, .x true), (5, .x true), (6, .x true), (7, .x true), (8, .x true), (9, .x true), (10, .x true), (11, .x true), (12, .x true), (13, .x true), (14, .x true), (15, .x true)] (by kernel_rfl) ?_
        refine ws_l rfl rfl rfl rfl (rd_move rfl) ?_
        refine ws_call rfl rfl rfl rfl rfl (En.go) (fun w hp hn ho => entries_ret p m cut es clock L hL hne (by rw [hrel.len]; omega) rows hrel w (hp.mono (by intro q hq; simp at hq ⊢; rcases hq with h | h <;> simp [h]))) (fun _ h => by cases h) (fun hh q h => by first | (cases h; done) | exact hh q h) ?_
        rintro v96 wa wb hpo hon hon2 hp1 ⟨νe, howne, hνe⟩
        refine ⟨νe, hνe, howne.nd, fun b hb => .inl (howne.far b hb), ?_⟩
        replace howne := howne.mono hon.size
        refine ws_l rfl rfl rfl rfl (rd_move rfl) ?_
        refine ws_callp rfl rfl rfl rfl rfl (En.go) (fun w hp hn ho => (same_ret _ νe rows (howne.mono (Nat.zero_le _)) _ νr rows (hown.mono (Nat.zero_le _)) (by omega) w (hp.mono (by intro q hq; simp at hq ⊢; rcases hq with h | h <;> simp [h])) (SubH.nd hn)).mono (fun _ h => h) (fun v w1 _ h => by rw [h, decide_eq_true rfl])) ?_
        refine ws_l rfl rfl rfl rfl (rd_move rfl) ?_
        refine ws_l rfl rfl rfl rfl (rd_move rfl) ?_
        refine ws_callp rfl rfl rfl rfl rfl (En.go) (fun w hp hn ho => cutoff_ret p m cut w (hp.mono (by simp))) ?_
        refine ws_l rfl rfl rfl rfl (rd_move rfl) ?_
        refine ws_l rfl rfl rfl rfl (rd_cmp_t rfl rfl rfl (by simp [cmpP])) ?_
        refine ws_l rfl rfl rfl rfl (rd_pick_t rfl rfl) ?_
        refine ws_l rfl rfl rfl rfl (rd_move rfl) ?_
        refine ws_l rfl rfl rfl rfl (rd_move rfl) ?_
        refine ws_callp rfl rfl rfl rfl rfl (En.go) (fun w hp hn ho => equal_ptr_nil p w) ?_
        refine ws_l rfl rfl rfl rfl (rd_not rfl) ?_
        refine ws_l rfl rfl rfl rfl (rd_pick_t rfl rfl) ?_
        refine ws_l rfl rfl rfl rfl (rd_assign rfl) ?_
        refine ws_nil ?_
        refine qe_then ?_
        refine wc_keep [(4, _)] rfl ?_
        refine wc_ret ?_
        refine qe_body _ (.inl rfl) (res1 rfl (RV.tmp rfl)) ?_
        exact ret_end fun w hp hn ho => rfl
    · intro h64
      refine ws_l rfl rfl rfl rfl (rd_move rfl) ?_
      refine ws_xskip rfl rfl rfl rfl ?_
      refine ws_xskip rfl rfl rfl rfl ?_
      refine ws_l rfl rfl rfl rfl (rd_pick_f rfl rfl) ?_
      refine ws_nil ?_
      refine qe_then ?_
      refine wc_false rfl ?_
      refine wc_exit ?_
      refine qe_then_exit ?_
      refine qe_then_exit ?_
      refine qe_block_exit ?_
      refine qe_then ?_
      refine wc_keep [(5, _), (6, _), (7, _)] rfl ?_
      refine wc_seq ?_
      refine wc_plain [(0, .x true), (1, .x true), (2, .x true), (3, .x true), (4, .x true), (5, .x true), (6, .x true), (7, .x true), (8, .x true), (9, .x true), (10, .x true), (11, .x true), (12, .x true), (13, .x true), (14, .x true), (15, .x true)] (by kernel_rfl) ?_
      refine ws_l rfl rfl rfl rfl (rd_move rfl) ?_
      refine ws_call rfl rfl rfl rfl rfl (En.go) (fun w hp hn ho => entries_ret p m cut es clock L hL hne (by rw [hrel.len]; omega) rows hrel w (hp.mono (by intro q hq; simp at hq ⊢; rcases hq with h | h <;> simp [h]))) (fun _ h => by cases h) (fun hh q h => by first | (cases h; done) | exact hh q h) ?_
      rintro v96 wa wb hpo hon hon2 hp1 ⟨νe, howne, hνe⟩
      refine ⟨νe, hνe, howne.nd, fun b hb => .inl (howne.far b hb), ?_⟩
      replace howne := howne.mono hon.size
      refine ws_l rfl rfl rfl rfl (rd_move rfl) ?_
      refine ws_callp rfl rfl rfl rfl rfl (En.go) (fun w hp hn ho => (same_ret _ νe rows (howne.mono (Nat.zero_le _)) _ νr rows (hown.mono (Nat.zero_le _)) (by omega) w (hp.mono (by intro q hq; simp at hq ⊢; rcases hq with h | h <;> simp [h])) (SubH.nd hn)).mono (fun _ h => h) (fun v w1 _ h => by rw [h, decide_eq_true rfl])) ?_
      refine ws_l rfl rfl rfl rfl (rd_move rfl) ?_
      refine ws_l rfl rfl rfl rfl (rd_move rfl) ?_
      refine ws_callp rfl rfl rfl rfl rfl (En.go) (fun w hp hn ho => cutoff_ret p m cut w (hp.mono (by simp))) ?_
      refine ws_l rfl rfl rfl rfl (rd_move rfl) ?_
      refine ws_l rfl rfl rfl rfl (rd_cmp_t rfl rfl rfl (by simp [cmpP])) ?_
      refine ws_l rfl rfl rfl rfl (rd_pick_t rfl rfl) ?_
      refine ws_l rfl rfl rfl rfl (rd_move rfl) ?_
      refine ws_l rfl rfl rfl rfl (rd_move rfl) ?_
      refine ws_callp rfl rfl rfl rfl rfl (En.go) (fun w hp hn ho => equal_ptr_nil p w) ?_
      refine ws_l rfl rfl rfl rfl (rd_not rfl) ?_
      refine ws_l rfl rfl rfl rfl (rd_pick_t rfl rfl) ?_
      refine ws_l rfl rfl rfl rfl (rd_assign rfl) ?_
      refine ws_nil ?_
      refine qe_then ?_
      refine wc_keep [(4, _)] rfl ?_
      refine wc_ret ?_
      refine qe_body _ (.inl rfl) (res1 rfl (RV.tmp rfl)) ?_
      exact ret_end fun w hp hn ho => rfl
  · intro h43
    refine ws_l rfl rfl rfl rfl (rd_move rfl) ?_
    refine ws_xskip rfl rfl rfl rfl ?_
    refine ws_xskip rfl rfl rfl rfl ?_
    refine ws_xskip rfl rfl rfl rfl ?_
    refine ws_l rfl rfl rfl rfl (rd_pick_f rfl rfl) ?_
    refine ws_l rfl rfl rfl rfl (rd_bneq rfl rfl Try.underlying4 (by (try simp only [cmpP, ne_eq, Decidable.not_not] at *); simp [hrel.eqM hrelm, *])) ?_
    refine ws_l rfl rfl rfl rfl (rd_pick_f rfl rfl) ?_
    refine ws_nil ?_
    refine qe_then ?_
    refine wc_keep [(1, _), (4, _), (5, _), (6, _), (7, _), (50, _)] rfl ?_
    refine wc_false rfl ?_
    refine wc_skip ?_
    refine qe_then ?_
    refine wc_seq ?_
    refine wc_plain [(0, .x true), (1, .x true), (2, .x true)] (by kernel_rfl) ?_
    refine ws_l rfl rfl rfl rfl (rd_move rfl) ?_
    refine ws_call rfl rfl rfl rfl rfl (En.go) (fun w hp hn ho => clone_ret p m cut es clock hne w (hp.mono (by intro q hq; simp at hq ⊢; rcases hq with h | h <;> simp [h]))) (fun _ h => by cases h) (fun hh q h => by first | (cases h; done) | exact hh q h) ?_
    rintro v52 wa wb hpo hon hon2 hp1 ⟨p2, m2, rfl, hp20, hm20, hne2, hh2⟩
    refine ⟨hist p2 m2 cut es clock, hh2, by simp [hne2], fun b hb => .inl (by simp at hb; rcases hb with rfl | rfl; exact hp20; exact hm20), ?_⟩
    replace hp20 := Nat.le_trans hon.size hp20
    replace hm20 := Nat.le_trans hon.size hm20
    simp only [hist, List.cons_append, List.nil_append]
    refine ws_l rfl rfl rfl rfl (rd_assign rfl) ?_
    refine ws_nil ?_
    refine qe_then ?_
    refine wc_seq ?_
    refine wc_seq ?_
    refine wc_plain [(0, .x true), (1, .x true), (2, .x true), (3, .x true), (4, .x true), (5, .x true), (6, .x true), (7, .x true)] (by kernel_rfl) ?_
    refine ws_l rfl rfl rfl rfl (rd_move rfl) ?_
    refine ws_l rfl rfl rfl rfl (rd_ptr_nil rfl rfl Try.underlying35 rfl) ?_
    refine ws_l rfl rfl rfl rfl (rd_move rfl) ?_
    refine ws_l rfl rfl rfl rfl (rd_move rfl) ?_
    refine ws_l rfl rfl rfl rfl (rd_move rfl) ?_
    refine ws_callp rfl rfl rfl rfl rfl (En.go) (fun w hp hn ho => (equal_ret p2 p cut cut m2 m es es clock clock L L hL hL w (hp.mono (by intro q hq; simp at hq ⊢; rcases hq with h | h | h | h <;> simp [h])) (by simp at hn ⊢; omega)).mono (fun _ h => h) (fun v w1 _ h => by rw [h, decide_eq_true ⟨rfl, EqM.self hrel.keys⟩])) ?_
    refine ws_l rfl rfl rfl rfl (rd_not rfl) ?_
    refine ws_l rfl rfl rfl rfl (rd_pick_f rfl rfl) ?_
    refine ws_nil ?_
    refine qe_then ?_
    refine wc_keep [(1, _), (4, _), (5, _), (6, _), (7, _), (13, _), (60, _)] rfl ?_
    refine wc_false rfl ?_
    refine wc_skip ?_
    refine qe_then ?_
    refine wc_seq ?_
    refine wc_seq ?_
    refine wc_plain [(0, .x true)] (by kernel_rfl) ?_
    refine ws_l rfl rfl rfl rfl (rd_assign rfl) ?_
    refine ws_nil ?_
    refine qe_then ?_
    refine wc_block ?_
    refine wc_loop (fun mz ac w1 => ∃ (j : Nat) (es1 : Array MapEntry) (cl1 : Nat) (L1 : HMap) (cut1 : Int), mz = 40 - j ∧ (j ≤ 40) ∧ (MapIs idK entK es1 cl1 L1) ∧ (L1.length ≤ 40 + 2 * j) ∧ St 110 w [] [(1, vm), (5, ptr p), (6, vr), (7, I cut), (13, ptr p2), (14, I j)] ((p2, .cells #[.map (some m2), I cut1] 86 (0, 0)) :: (m2, .map es1 cl1) :: ((p, .cells #[.map (some m), I cut] 86 (0, 0)) :: (m, .map es clock) :: (νr ++ νl))) ac w1) _ (fun ac w1 hs => ⟨0, es, clock, L, cut, rfl, (by omega), (hL), (by rw [hrel.len]; omega), st_sub hs _ rfl⟩) ?_
    rintro _ ac2 wl2 ⟨j, es1, cl1, L1, cut1, rfl, hj, hL1, hl1, hs2⟩
    refine wc_at hs2 ?_
    refine wc_seq ?_
    refine wc_seq ?_
    refine wc_plain [(0, .x true), (1, .x true), (2, .x true), (3, .x true), (4, .x true), (5, .x true), (6, .x true), (7, .x true)] (by kernel_rfl) ?_
    refine ws_l rfl rfl rfl rfl (rd_move rfl) ?_
    refine ws_l rfl rfl rfl rfl (rd_move rfl) ?_
    refine ws_l rfl rfl rfl rfl (rd_lenS hsrcm rfl Try.underlying34) ?_
    refine ws_lcmp rfl rfl rfl (rfl) (rfl) (rfl) ?_ ?_
    · intro h64
      refine ws_l rfl rfl rfl rfl (rd_move rfl) ?_
      refine ws_l rfl rfl rfl rfl (rd_move rfl) ?_
      refine ws_lcmp rfl rfl rfl (rfl) (rfl) (rfl) ?_ ?_
      · intro h67
        refine ws_l rfl rfl rfl rfl (rd_pick_t rfl rfl) ?_
        refine ws_nil ?_
        refine qe_then ?_
        refine wc_true rfl ?_
        refine wc_skip ?_
        refine qe_then ?_
        refine wc_seq ?_
        refine wc_block ?_
        refine wc_seq ?_
        refine wc_plain [(0, .x true), (1, .x true), (2, .x true), (3, .x true), (4, .x true), (5, .x true), (6, .x true), (7, .x true)] (by kernel_rfl) ?_
        refine ws_l rfl rfl rfl rfl (rd_move rfl) ?_
        refine ws_l rfl rfl rfl rfl (rd_move rfl) ?_
        refine ws_l rfl rfl rfl rfl (rd_move rfl) ?_
        obtain ⟨bl, ol, cl, cs, El, frl, rfl, hml, hcs⟩ := Src.opened hsrcm (by omega)
        have hmi : HM bl (.cells cs El frl) νl := ⟨hml⟩
        obtain ⟨o, ho⟩ := at_ex (l := opsm) (j := j) (by omega)
        obtain ⟨ato, ato2⟩ := op_at hcs ho
        refine ws_l rfl rfl rfl rfl (rd_index (ol + j * 37) rfl rfl Try.underlying34 Try.sizeOf44 ⟨by omega, by omega⟩ (by simp)) ?_
        refine ws_l rfl rfl rfl rfl (rd_fieldAddr rfl) ?_
        refine ws_l rfl rfl rfl rfl (rd_load rfl) ?_
        refine ws_callp rfl rfl rfl rfl rfl (En.go) (fun w hp hn ho => to_ret _ w) ?_
        refine ws_call rfl rfl rfl rfl rfl (En.go) (fun w hp hn ho => add_ret p2 m2 cut1 es1 cl1 L1 hL1 hne2 (by omega) o.x w (hp.mono (by intro q hq; simp at hq ⊢; rcases hq with h | h <;> simp [h]))) (fun b hb => .inl (by simp at hb; subst hb; exact hm20)) (fun hh q h => by first | (cases h; done) | exact hh q h) ?_
        rintro v78 wa wb hpo hon hon2 hp1 ⟨-, es2, cl2, hmx, hL2⟩
        refine ⟨[(m2, .map es2 cl2)], fun b o hm => by simp at hm; obtain ⟨rfl, rfl⟩ := hm; exact hmx, by simp, by simp, ?_⟩
        refine ws_nil ?_
        refine qe_then ?_
        refine wc_seq ?_
        refine wc_plain [(0, .x true), (1, .x true), (2, .x true), (3, .x true), (4, .x true), (5, .x true), (6, .x true), (7, .x true)] (by kernel_rfl) ?_
        refine ws_l rfl rfl rfl rfl (rd_move rfl) ?_
        refine ws_l rfl rfl rfl rfl (rd_move rfl) ?_
        refine ws_l rfl rfl rfl rfl (rd_move rfl) ?_
        refine ws_l rfl rfl rfl rfl (rd_index (ol + j * 37) rfl rfl Try.underlying34 Try.sizeOf44 ⟨by omega, by omega⟩ (by simp)) ?_
        refine ws_l rfl rfl rfl rfl (rd_fieldAddr rfl) ?_
        refine ws_l rfl rfl rfl rfl (rd_fieldAddr rfl) ?_
        refine ws_l rfl rfl rfl rfl (rd_load rfl) ?_
        refine ws_call rfl rfl rfl rfl rfl (En.go) (fun w hp hn ho => setgone_ret p2 m2 cut1 es2 cl2 _ hL2 hne2 o.x.id w (hp.mono (by intro q hq; simp at hq ⊢; rcases hq with h | h <;> simp [h]))) (fun b hb => .inl (by simp at hb; subst hb; exact hm20)) (fun hh q h => by first | (cases h; done) | exact hh q h) ?_
        rintro v86 wa wb hpo hon hon2 hp1 ⟨-, es3, cl3, hmx, hL3⟩
        refine ⟨[(m2, .map es3 cl3)], fun b o hm => by simp at hm; obtain ⟨rfl, rfl⟩ := hm; exact hmx, by simp, by simp, ?_⟩
        refine ws_nil ?_
        refine qe_then ?_
        refine wc_plain [(0, .x true), (1, .x true), (2, .x true), (3, .x true), (4, .x true), (5, .x true), (6, .x true), (7, .x true)] (by kernel_rfl) ?_
        refine ws_l rfl rfl rfl rfl (rd_move rfl) ?_
        refine ws_l rfl rfl rfl rfl (rd_move rfl) ?_
        refine ws_l rfl rfl rfl rfl (rd_move rfl) ?_
        refine ws_l rfl rfl rfl rfl (rd_index (ol + j * 37) rfl rfl Try.underlying34 Try.sizeOf44 ⟨by omega, by omega⟩ (by simp)) ?_
        refine ws_l rfl rfl rfl rfl (rd_fieldAddr rfl) ?_
        refine ws_l rfl rfl rfl rfl (rd_fieldAddr rfl) ?_
        refine ws_l rfl rfl rfl rfl (rd_load rfl) ?_
        refine ws_call rfl rfl rfl rfl rfl (En.go) (fun w hp hn ho => forget_ret p2 m2 cut1 es3 cl3 _ hL3 hne2 (by have h1 := Rel.addLen (L := L1) o.x; have h2 := goneL_len (L := addL L1 o.x) o.x.id; omega) o.x.arr w (hp.mono (by intro q hq; simp at hq ⊢; rcases hq with h | h <;> simp [h]))) (fun b hb => .inl (by simp at hb; rcases hb with rfl | rfl; exact hp20; exact hm20)) (fun hh q h => by first | (cases h; done) | exact hh q h) ?_
        rintro v94 wa wb hpo hon hon2 hp1 ⟨u27, ν27, gone, es4, L4, cut2, rfl, hown27, hν27, hh27, hL4, hLe, hc4, hgp, hgs⟩
        have hpm2 : p2 < wa.heap.size ∧ m2 < wa.heap.size := ⟨hpo.lt (b := p2) (o := .cells #[.map (some m2), I cut1] 86 (0, 0)) (by simp), hpo.lt (b := m2) (o := .map es3 cl3) (by simp)⟩
        refine ⟨ν27 ++ hist p2 m2 cut2 es4 cl3, hν27.append hh27, nodup_app hown27.nd (by simp [hne2]) hown27.far (by simp; exact hpm2), fun b hb => by rw [List.map_append, List.mem_append] at hb; exact hb.elim (fun h => .inl (hown27.far b h)) (fun h => .inr (by simpa using h)), ?_⟩
        have hl4 : L4.length ≤ L1.length + 2 := by have h1 := Rel.addLen (L := L1) o.x; have h2 := goneL_len (L := addL L1 o.x) o.x.id; rw [hLe]; exact Nat.le_trans (List.length_filter_le _ _) (by omega)
        rw [List.append_assoc]; simp only [hist, List.cons_append, List.nil_append]
        refine ws_nil ?_
        refine qe_block ?_
        refine qe_then ?_
        refine wc_plain [(0, .x true), (1, .x true), (2, .x true)] (by kernel_rfl) ?_
        refine ws_l rfl rfl rfl rfl (rd_move rfl) ?_
        refine ws_l rfl rfl rfl rfl (rd_arith (((j + 1 : Nat) : Int)) rfl rfl rfl (by rw [wrap_i64 _ (by omega) (by omega)]; omega)) ?_
        refine ws_l rfl rfl rfl rfl (rd_assign rfl) ?_
        refine ws_nil ?_
        exact qe_loop fun ac2 w2 hs2 => ⟨_, by omega, j + 1, es4, cl3, L4, cut2, rfl, (by omega), (hL4), (by omega), st_sub hs2 _ rfl⟩
      · intro h67
        refine ws_l rfl rfl rfl rfl (rd_pick_t rfl rfl) ?_
        refine ws_nil ?_
        refine qe_then ?_
        refine wc_false rfl ?_
        refine wc_exit ?_
        refine qe_then_exit ?_
        refine qe_then_exit ?_
        refine qe_block_exit ?_
        refine qe_then ?_
        refine wc_keep [(5, _), (6, _), (7, _)] rfl ?_
        refine wc_seq ?_
        refine wc_plain [(0, .x true), (1, .x true), (2, .x true), (3, .x true), (4, .x true), (5, .x true), (6, .x true), (7, .x true), (8, .x true), (9, .x true), (10, .x true), (11, .x true), (12, .x true), (13, .x true), (14, .x true), (15, .x true)] (by kernel_rfl) ?_
        refine ws_l rfl rfl rfl rfl (rd_move rfl) ?_
        refine ws_call rfl rfl rfl rfl rfl (En.go) (fun w hp hn ho => entries_ret p m cut es clock L hL hne (by rw [hrel.len]; omega) rows hrel w (hp.mono (by intro q hq; simp at hq ⊢; rcases hq with h | h <;> simp [h]))) (fun _ h => by cases h) (fun hh q h => by first | (cases h; done) | exact hh q h) ?_
        rintro v96 wa wb hpo hon hon2 hp1 ⟨νe, howne, hνe⟩
        refine ⟨νe, hνe, howne.nd, fun b hb => .inl (howne.far b hb), ?_⟩
        replace howne := howne.mono hon.size
        refine ws_l rfl rfl rfl rfl (rd_move rfl) ?_
        refine ws_callp rfl rfl rfl rfl rfl (En.go) (fun w hp hn ho => (same_ret _ νe rows (howne.mono (Nat.zero_le _)) _ νr rows (hown.mono (Nat.zero_le _)) (by omega) w (hp.mono (by intro q hq; simp at hq ⊢; rcases hq with h | h <;> simp [h])) (SubH.nd hn)).mono (fun _ h => h) (fun v w1 _ h => by rw [h, decide_eq_true rfl])) ?_
        refine ws_l rfl rfl rfl rfl (rd_move rfl) ?_
        refine ws_l rfl rfl rfl rfl (rd_move rfl) ?_
        refine ws_callp rfl rfl rfl rfl rfl (En.go) (fun w hp hn ho => cutoff_ret p m cut w (hp.mono (by simp))) ?_
        refine ws_l rfl rfl rfl rfl (rd_move rfl) ?_
        refine ws_l rfl rfl rfl rfl (rd_cmp_t rfl rfl rfl (by simp [cmpP])) ?_
        refine ws_l rfl rfl rfl rfl (rd_pick_t rfl rfl) ?_
        refine ws_l rfl rfl rfl rfl (rd_move rfl) ?_
        refine ws_l rfl rfl rfl rfl (rd_move rfl) ?_
        refine ws_callp rfl rfl rfl rfl rfl (En.go) (fun w hp hn ho => equal_ptr_nil p w) ?_
        refine ws_l rfl rfl rfl rfl (rd_not rfl) ?_
        refine ws_l rfl rfl rfl rfl (rd_pick_t rfl rfl) ?_
        refine ws_l rfl rfl rfl rfl (rd_assign rfl) ?_
        refine ws_nil ?_
        refine qe_then ?_
        refine wc_keep [(4, _)] rfl ?_
        refine wc_ret ?_
        refine qe_body _ (.inl rfl) (res1 rfl (RV.tmp rfl)) ?_
        exact ret_end fun w hp hn ho => rfl
    · intro h64
      refine ws_l rfl rfl rfl rfl (rd_move rfl) ?_
      refine ws_xskip rfl rfl rfl rfl ?_
      refine ws_xskip rfl rfl rfl rfl ?_
      refine ws_l rfl rfl rfl rfl (rd_pick_f rfl rfl) ?_
      refine ws_nil ?_
      refine qe_then ?_
      refine wc_false rfl ?_
      refine wc_exit ?_
      refine qe_then_exit ?_
      refine qe_then_exit ?_
      refine qe_block_exit ?_
      refine qe_then ?_
      refine wc_keep [(5, _), (6, _), (7, _)] rfl ?_
      refine wc_seq ?_
      refine wc_plain [(0, .x true), (1, .x true), (2, .x true), (3, .x true), (4, .x true), (5, .x true), (6, .x true), (7, .x true), (8, .x true), (9, .x true), (10, .x true), (11, .x true), (12, .x true), (13, .x true), (14, .x true), (15, .x true)] (by kernel_rfl) ?_
      refine ws_l rfl rfl rfl rfl (rd_move rfl) ?_
      refine ws_call rfl rfl rfl rfl rfl (En.go) (fun w hp hn ho => entries_ret p m cut es clock L hL hne (by rw [hrel.len]; omega) rows hrel w (hp.mono (by intro q hq; simp at hq ⊢; rcases hq with h | h <;> simp [h]))) (fun _ h => by cases h) (fun hh q h => by first | (cases h; done) | exact hh q h) ?_
      rintro v96 wa wb hpo hon hon2 hp1 ⟨νe, howne, hνe⟩
      refine ⟨νe, hνe, howne.nd, fun b hb => .inl (howne.far b hb), ?_⟩
      replace howne := howne.mono hon.size
      refine ws_l rfl rfl rfl rfl (rd_move rfl) ?_
      refine ws_callp rfl rfl rfl rfl rfl (En.go) (fun w hp hn ho => (same_ret _ νe rows (howne.mono (Nat.zero_le _)) _ νr rows (hown.mono (Nat.zero_le _)) (by omega) w (hp.mono (by intro q hq; simp at hq ⊢; rcases hq with h | h <;> simp [h])) (SubH.nd hn)).mono (fun _ h => h) (fun v w1 _ h => by rw [h, decide_eq_true rfl])) ?_
      refine ws_l rfl rfl rfl rfl (rd_move rfl) ?_
      refine ws_l rfl rfl rfl rfl (rd_move rfl) ?_
      refine ws_callp rfl rfl rfl rfl rfl (En.go) (fun w hp hn ho => cutoff_ret p m cut w (hp.mono (by simp))) ?_
      refine ws_l rfl rfl rfl rfl (rd_move rfl) ?_
      refine ws_l rfl rfl rfl rfl (rd_cmp_t rfl rfl rfl (by simp [cmpP])) ?_
      refine ws_l rfl rfl rfl rfl (rd_pick_t rfl rfl) ?_
      refine ws_l rfl rfl rfl rfl (rd_move rfl) ?_
      refine ws_l rfl rfl rfl rfl (rd_move rfl) ?_
      refine ws_callp rfl rfl rfl rfl rfl (En.go) (fun w hp hn ho => equal_ptr_nil p w) ?_
      refine ws_l rfl rfl rfl rfl (rd_not rfl) ?_
      refine ws_l rfl rfl rfl rfl (rd_pick_t rfl rfl) ?_
      refine ws_l rfl rfl rfl rfl (rd_assign rfl) ?_
      refine ws_nil ?_
      refine qe_then ?_
      refine wc_keep [(4, _)] rfl ?_
      refine wc_ret ?_
      refine qe_body _ (.inl rfl) (res1 rfl (RV.tmp rfl)) ?_
      exact ret_end fun w hp hn ho => rfl

end Go.Proofs.Ytegjmmjjchpeoaa
