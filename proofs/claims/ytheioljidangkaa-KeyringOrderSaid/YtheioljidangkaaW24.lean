/- Walks: Equal. No conditions. -/
import Derived.Test.YtheioljidangkaaW19
import Derived.Test.YtheioljidangkaaPrm
namespace Go.Proofs.Ytheioljidangkaa
open Go Go.RowKit Go.Sx
set_option linter.unusedSimpArgs false
set_option linter.unusedVariables false

def eqM (L1 L2 : RMap) : Prop := L1.length = L2.length ∧ ∀ q ∈ L1, mlook L2 q.1 = some q.2
instance (L1 L2 : RMap) : Decidable (eqM L1 L2) := inferInstanceAs (Decidable (_ ∧ _))
theorem eqM_same {L L2 : RMap} {W W2 : WMap} {own own2 : List RK} (h : RingOK L W own) (h2 : RingOK L2 W2 own2) : decide (eqM L L2) = decide (sameF own own2) := by
  apply decide_eq_decide.2
  rw [eqM, sameF, h.len, h2.len]
  refine and_congr_right fun _ => ⟨fun hq x hx => ?_, fun hx q hq => ?_⟩
  · have := hq (x.id, x) (by rw [h.rows]; exact List.mem_map.2 ⟨x, hx, rfl⟩)
    exact (h2.look this).1
  · rw [h.rows] at hq
    obtain ⟨x, hm, rfl⟩ := List.mem_map.1 hq
    exact h2.at (hx x hm)
set_option maxRecDepth 100000 in
set_option maxHeartbeats 4000000 in
theorem mapeq_ret (m1 m2 : Nat) (es1 es2 : Array MapEntry) (c1 c2 : Nat) (L1 L2 : RMap) (hL1 : MapIs (idK (n := 32)) rkK es1 c1 L1) (hL2 : MapIs (idK (n := 32)) rkK es2 c2 L2) (w : World) (hη : HpOK ((m1, .map es1 c1) :: (m2, .map es2 c2) :: []) w) (hnd : (((m1, Obj.map es1 c1) :: (m2, .map es2 c2) :: []).map Prod.fst).Nodup) : Ret Try.prog 36 [.map (some m1), .map (some m2)] w [] (fun v _ => v = .bool (decide (eqM L1 L2))) := by
  refine enter (n := 34) (args := [.map (some m1), .map (some m2)]) [] ((m1, .map es1 c1) :: (m2, .map es2 c2) :: []) Try.func36 rfl rfl rfl hη hnd ?_
  refine wc_seq ?_
  refine wc_plain [(0, .x true)] (by kernel_rfl) ?_
  refine ws_l rfl rfl rfl rfl (rd_assign rfl) ?_
  refine ws_nil ?_
  refine qe_then ?_
  refine wc_seq ?_
  refine wc_seq ?_
  refine wc_plain [(0, .x true), (1, .x true), (2, .x true), (3, .x true), (4, .x true)] (by kernel_rfl) ?_
  refine ws_l rfl rfl rfl rfl (rd_move rfl) ?_
  refine ws_l rfl rfl rfl rfl (rd_lenmap (ek := idK (n := 32)) (en := rkK) hL1 Try.underlying91 rfl) ?_
  refine ws_l rfl rfl rfl rfl (rd_move rfl) ?_
  refine ws_l rfl rfl rfl rfl (rd_lenmap (ek := idK (n := 32)) (en := rkK) hL2 Try.underlying91 rfl) ?_
  refine ws_lcmp rfl rfl rfl (rfl) (rfl) (rfl) ?_ ?_
  · intro h13
    have hlne : ¬ L1.length = L2.length := fun e => by simp only [cmpP] at h13; exact h13 (by rw [e])
    refine ws_nil ?_
    refine qe_then ?_
    refine wc_true rfl ?_
    refine wc_seq ?_
    refine wc_plain [(0, .x true)] (by kernel_rfl) ?_
    refine ws_l rfl rfl rfl rfl (rd_assign rfl) ?_
    refine ws_nil ?_
    refine qe_then ?_
    refine wc_keep [(0, _), (1, _), (4, _)] rfl ?_
    refine wc_ret ?_
    refine qe_then_ret ?_
    refine qe_body _ (.inl rfl) (res1 rfl (RV.tmp rfl)) ?_
    exact ret_end fun w hp hn ho => bf (fun h => hlne h.1)
  · intro h13
    have hll : L1.length = L2.length := by simp only [cmpP] at h13; omega
    refine ws_nil ?_
    refine qe_then ?_
    refine wc_false rfl ?_
    refine wc_skip ?_
    refine qe_then ?_
    refine wc_keep [(0, _), (1, _), (4, _)] rfl ?_
    refine wc_seq ?_
    refine wc_seq ?_
    refine wc_plain [(0, .x true), (1, .x true)] (by kernel_rfl) ?_
    refine ws_l rfl rfl rfl rfl (rd_move rfl) ?_
    refine ws_range Try.underlying91 rfl rfl rfl rfl ?_
    intro b15 hb15
    refine ws_nil ?_
    refine qe_then ?_
    refine wc_block ?_
    refine wc_loop (fun mz ac w1 => ∃ (seen : Array Nat) (R : RMap), mz = R.length ∧ (IterIs (idK (n := 32)) rkK es1 seen R) ∧ (∀ q ∈ R, q ∈ L1) ∧ (∀ q ∈ L1, q ∈ R ∨ mlook L2 q.1 = some q.2) ∧ St 34 w [] [(1, .map (some m2)), (15, ptr b15)] ((b15, .mapIter (some m1) c1 seen c1) :: ((m1, .map es1 c1) :: (m2, .map es2 c2) :: [])) ac w1) _ (fun ac w1 hs => ⟨#[], L1, rfl, (IterIs.start hL1), (fun _ h => h), (fun _ h => .inl h), st_sub hs _ rfl⟩) ?_
    rintro _ ac1 wl1 ⟨seen, R, rfl, hit, hsub, hall, hs1⟩
    refine wc_at hs1 ?_
    refine wc_seq ?_
    refine wc_plain [(0, .x true), (1, .x true)] (by kernel_rfl) ?_
    refine ws_next (ek := idK (n := 32)) (en := rkK) hL1 hit rfl rfl rfl rfl (Nat.le_refl _) (.inl hb15) ?_ ?_
    · intro hR
      refine ws_l rfl rfl rfl rfl (rd_extract rfl) ?_
      refine ws_nil ?_
      refine qe_then ?_
      refine wc_seq ?_
      refine wc_false rfl ?_
      refine wc_exit ?_
      refine qe_then_exit ?_
      refine qe_then_exit ?_
      refine qe_block_exit ?_
      refine qe_then ?_
      refine wc_seq ?_
      refine wc_plain [(0, .x true)] (by kernel_rfl) ?_
      refine ws_l rfl rfl rfl rfl (rd_assign rfl) ?_
      refine ws_nil ?_
      refine qe_then ?_
      refine wc_ret ?_
      refine qe_body _ (.inl rfl) (res1 rfl (RV.tmp rfl)) ?_
      exact ret_end fun w hp hn ho => bt ⟨hll, fun q hq => (hall q hq).elim (fun h => by rw [hR] at h; cases h) id⟩
    · intro R1 pr R2 seen' hR hit' hcu
      have hpm : pr ∈ L1 := hsub pr (by rw [hR]; simp)
      refine ws_l rfl rfl rfl rfl (rd_extract rfl) ?_
      refine ws_nil ?_
      refine qe_then ?_
      refine wc_seq ?_
      refine wc_true rfl ?_
      refine wc_skip ?_
      refine qe_then ?_
      refine wc_block ?_
      refine wc_seq ?_
      refine wc_plain [(0, .x true), (1, .x true), (2, .x true), (3, .x true), (4, .x true), (5, .x true), (6, .x true)] (by kernel_rfl) ?_
      refine ws_l rfl rfl rfl rfl (rd_entry (ek := idK (n := 32)) (en := rkK) hL1 hcu rfl) ?_
      refine ws_l rfl rfl rfl rfl (rd_extract rfl) ?_
      refine ws_l rfl rfl rfl rfl (rd_extract rfl) ?_
      refine ws_alloc rfl rfl rfl ?_
      intro b5 hb5
      refine ws_alloc rfl rfl rfl ?_
      intro b6 hb6
      refine ws_store rfl rfl rfl rfl (by first | exact .inl (by assumption) | exact .inr (by simp)) (fun _ h _ => by first | (cases h; done) | exact List.mem_cons_of_mem _ h | exact List.mem_cons_of_mem _ (List.mem_cons_of_mem _ h) | (simp at h ⊢; simp [h])) ?_
      refine ws_store rfl rfl rfl rfl (by first | exact .inl (by assumption) | exact .inr (by simp)) (fun _ h _ => by first | (cases h; done) | exact List.mem_cons_of_mem _ h | exact List.mem_cons_of_mem _ (List.mem_cons_of_mem _ h) | (simp at h ⊢; simp [h])) ?_
      refine ws_nil ?_
      refine qe_then ?_
      refine wc_seq ?_
      refine wc_plain [(0, .x true), (1, .x true), (2, .x true), (3, .x true), (4, .x true), (5, .x true), (6, .x true), (7, .x true), (8, .x true)] (by kernel_rfl) ?_
      refine ws_l rfl rfl rfl rfl (rd_move rfl) ?_
      refine ws_l rfl rfl rfl rfl (rd_load rfl) ?_
      cases hlk : mlook L2 pr.1 with
      | none =>
        refine ws_l rfl rfl rfl rfl (rd_look2_none (ek := idK (n := 32)) (en := rkK) Try.underlying91 hL2 zero99 hlk rfl rfl) ?_
        refine ws_l rfl rfl rfl rfl (rd_move rfl) ?_
        refine ws_l rfl rfl rfl rfl (rd_extract rfl) ?_
        refine ws_l rfl rfl rfl rfl (rd_extract rfl) ?_
        refine ws_alloc rfl rfl rfl ?_
        intro b7 hb7
        refine ws_store rfl rfl rfl rfl (by first | exact .inl (by assumption) | exact .inr (by simp)) (fun _ h _ => by first | (cases h; done) | exact List.mem_cons_of_mem _ h | exact List.mem_cons_of_mem _ (List.mem_cons_of_mem _ h) | (simp at h ⊢; simp [h])) ?_
        refine ws_l rfl rfl rfl rfl (rd_assign rfl) ?_
        refine ws_nil ?_
        refine qe_then ?_
        refine wc_seq ?_
        refine wc_plain [(0, .x true), (1, .x true), (2, .x true), (3, .x true), (4, .x true), (5, .x true), (6, .x true)] (by kernel_rfl) ?_
        refine ws_l rfl rfl rfl rfl (rd_move rfl) ?_
        refine ws_l rfl rfl rfl rfl (rd_not rfl) ?_
        refine ws_l rfl rfl rfl rfl (rd_move rfl) ?_
        refine ws_xskip rfl rfl rfl rfl ?_
        refine ws_xskip rfl rfl rfl rfl ?_
        refine ws_xskip rfl rfl rfl rfl ?_
        refine ws_l rfl rfl rfl rfl (rd_pick_t rfl rfl) ?_
        refine ws_nil ?_
        refine qe_then ?_
        refine wc_true rfl ?_
        refine wc_seq ?_
        refine wc_plain [(0, .x true)] (by kernel_rfl) ?_
        refine ws_l rfl rfl rfl rfl (rd_assign rfl) ?_
        refine ws_nil ?_
        refine qe_then ?_
        refine wc_ret ?_
        refine qe_block_ret ?_
        refine qe_then_ret ?_
        refine qe_block_ret ?_
        refine qe_then_ret ?_
        refine qe_body _ (.inl rfl) (res1 rfl (RV.tmp rfl)) ?_
        exact ret_end fun w hp hn ho => bf (fun h => by have := h.2 _ hpm; rw [hlk] at this; cases this)
      | some e0 =>
        refine ws_l rfl rfl rfl rfl (rd_look2_some (ek := idK (n := 32)) (en := rkK) Try.underlying91 hL2 hlk rfl rfl) ?_
        refine ws_l rfl rfl rfl rfl (rd_move rfl) ?_
        refine ws_l rfl rfl rfl rfl (rd_extract rfl) ?_
        refine ws_l rfl rfl rfl rfl (rd_extract rfl) ?_
        refine ws_alloc rfl rfl rfl ?_
        intro b7 hb7
        refine ws_store rfl rfl rfl rfl (by first | exact .inl (by assumption) | exact .inr (by simp)) (fun _ h _ => by first | (cases h; done) | exact List.mem_cons_of_mem _ h | exact List.mem_cons_of_mem _ (List.mem_cons_of_mem _ h) | (simp at h ⊢; simp [h])) ?_
        refine ws_l rfl rfl rfl rfl (rd_assign rfl) ?_
        refine ws_nil ?_
        refine qe_then ?_
        refine wc_seq ?_
        refine wc_plain [(0, .x true), (1, .x true), (2, .x true), (3, .x true), (4, .x true), (5, .x true), (6, .x true)] (by kernel_rfl) ?_
        refine ws_l rfl rfl rfl rfl (rd_move rfl) ?_
        refine ws_l rfl rfl rfl rfl (rd_not rfl) ?_
        refine ws_l rfl rfl rfl rfl (rd_move rfl) ?_
        refine ws_l rfl rfl rfl rfl (rd_load rfl) ?_
        refine ws_l rfl rfl rfl rfl (rd_load rfl) ?_
        refine ws_lp _ rfl rfl rfl rfl (rd_neq99 rfl rfl) ?_ ?_
        · intro h32
          refine ws_l rfl rfl rfl rfl (rd_pick_f rfl rfl) ?_
          refine ws_nil ?_
          refine qe_then ?_
          refine wc_true rfl ?_
          refine wc_seq ?_
          refine wc_plain [(0, .x true)] (by kernel_rfl) ?_
          refine ws_l rfl rfl rfl rfl (rd_assign rfl) ?_
          refine ws_nil ?_
          refine qe_then ?_
          refine wc_ret ?_
          refine qe_block_ret ?_
          refine qe_then_ret ?_
          refine qe_block_ret ?_
          refine qe_then_ret ?_
          refine qe_body _ (.inl rfl) (res1 rfl (RV.tmp rfl)) ?_
          exact ret_end fun w hp hn ho => bf (fun h => by have := h.2 _ hpm; rw [hlk] at this; cases this; exact h32 rfl)
        · intro h32
          refine ws_l rfl rfl rfl rfl (rd_pick_f rfl rfl) ?_
          refine ws_nil ?_
          refine qe_then ?_
          refine wc_false rfl ?_
          refine wc_skip ?_
          refine qe_block ?_
          exact qe_loop fun ac2 w2 hs2 => ⟨_, by subst hR; simp, seen', R1 ++ R2, rfl, (hit'), (fun q hq => hsub q (by rw [hR]; simp at hq ⊢; rcases hq with h | h <;> simp [h])), (fun q hq => (hall q hq).elim (fun h => by rw [hR] at h; simp at h; rcases h with h | rfl | h; exact .inl (by simp [h]); exact .inr (by rw [hlk, Decidable.of_not_not h32]); exact .inl (by simp [h])) .inr), st_sub hs2 _ rfl⟩
set_option maxRecDepth 100000 in
set_option maxHeartbeats 1000000 in
theorem equal_ret (p m k p2 m2 k2 : Nat) (es es2 : Array MapEntry) (c c2 : Nat) (L L2 : RMap) (W W2 : WMap) (own own2 : List RK) (hL : MapIs (idK (n := 32)) rkK es c L) (hL2 : MapIs (idK (n := 32)) rkK es2 c2 L2) (hok : RingOK L W own) (hok2 : RingOK L2 W2 own2) (w : World) (hη : HpOK (ringP p m k :: ringP p2 m2 k2 :: (m, .map es c) :: (m2, .map es2 c2) :: []) w) (hnd : ((ringP p m k :: ringP p2 m2 k2 :: (m, Obj.map es c) :: (m2, .map es2 c2) :: []).map Prod.fst).Nodup) : Ret Try.prog 22 [ptr p, ptr p2] w [] (fun u _ => u = .bool (decide (sameF own own2))) := by
  refine enter (n := 23) (args := [ptr p, ptr p2]) [] (ringP p m k :: ringP p2 m2 k2 :: (m, .map es c) :: (m2, .map es2 c2) :: []) Try.func22 rfl rfl rfl hη hnd ?_
  refine wc_seq ?_
  refine wc_plain [(0, .x true)] (by kernel_rfl) ?_
  refine ws_l rfl rfl rfl rfl (rd_assign rfl) ?_
  refine ws_nil ?_
  refine qe_then ?_
  refine wc_seq ?_
  refine wc_seq ?_
  refine wc_plain [(0, .x true), (1, .x true), (2, .x true), (3, .x true), (4, .x true), (5, .x true)] (by kernel_rfl) ?_
  refine ws_l rfl rfl rfl rfl (rd_move rfl) ?_
  refine ws_l rfl rfl rfl rfl (rd_ptr_nil rfl rfl Try.underlying25 rfl) ?_
  refine ws_l rfl rfl rfl rfl (rd_move rfl) ?_
  refine ws_l rfl rfl rfl rfl (rd_move rfl) ?_
  refine ws_l rfl rfl rfl rfl (rd_ptr_nil rfl rfl Try.underlying25 rfl) ?_
  refine ws_l rfl rfl rfl rfl (rd_pick_f rfl rfl) ?_
  refine ws_nil ?_
  refine qe_then ?_
  refine wc_keep [(0, _), (1, _), (4, _), (10, _)] rfl ?_
  refine wc_false rfl ?_
  refine wc_skip ?_
  refine qe_then ?_
  refine wc_seq ?_
  refine wc_drawn mixedT _ (fun _ h => h) [(0, .r), (1, .r), (2, .r), (3, .r), (4, .r), (5, .r), (6, .r), (7, .r), (8, .x true), (9, .x true)] (by kernel_rfl) ?_
  refine ws_r rfl rfl rfl rfl (rd_move rfl) ?_
  refine ws_r rfl rfl rfl rfl (rd_nil rfl) ?_
  refine ws_r rfl rfl rfl rfl (rd_fieldAddr rfl) ?_
  refine ws_r rfl rfl rfl rfl (rd_load rfl) ?_
  refine ws_r rfl rfl rfl rfl (rd_move rfl) ?_
  refine ws_r rfl rfl rfl rfl (rd_nil rfl) ?_
  refine ws_r rfl rfl rfl rfl (rd_fieldAddr rfl) ?_
  refine ws_r rfl rfl rfl rfl (rd_load rfl) ?_
  refine ws_late rfl ?_
  refine ws_callp rfl rfl rfl rfl rfl (En.go) (fun w hp hn ho => by have h := mapeq_ret m m2 es es2 c c2 L L2 hL hL2 w (hp.mono SubH.mem) (SubH.nd hn); rwa [eqM_same hok hok2] at h) ?_
  refine ws_l rfl rfl rfl rfl (rd_assign rfl) ?_
  refine ws_nil ?_
  refine qe_then ?_
  refine wc_keep [(4, _)] rfl ?_
  refine wc_ret ?_
  refine qe_body _ (.inl rfl) (res1 rfl (RV.tmp rfl)) ?_
  exact ret_end fun w hp hn ho => rfl

end Go.Proofs.Ytheioljidangkaa
