/- Walk: SupersedeClones. No conditions. -/
import Derived.Test.YtaagmgpfpaanlaaW27
import Derived.Test.YtaagmgpfpaanlaaW17
import Derived.Test.YtaagmgpfpaanlaaW9
namespace Go.Proofs.Ytaagmgpfpaanlaa
open Go Go.RowKit Go.Sx
set_option linter.unusedSimpArgs false
set_option linter.unusedVariables false

theorem heq_done {l m : List RR} {i : Nat} {eb : Bool} (h : l.length ≤ i ∨ eb = false) (heb : eb = (decide (l.length = m.length) && (l.take i).all fun x => decide (x ∈ m))) : eqOB l m = eb := by
  rcases h with h | h
  · rw [List.take_of_length_le h] at heb
    exact heb.symm
  · subst h
    rw [eqOB, Bool.and_eq_false_iff]
    rcases Bool.and_eq_false_iff.1 heb.symm with h1 | h1
    · exact .inl h1
    · obtain ⟨x, hx, hf⟩ := List.all_eq_false.1 h1
      exact .inr (List.all_eq_false.2 ⟨x, List.mem_of_mem_take hx, hf⟩)
set_option maxRecDepth 100000 in
set_option maxHeartbeats 8000000 in
theorem supersedeClones_ret (va vb : Value) (φ : Heap) (opsa opsb : List SOp) (hsrca : Src φ va 83 opsa.length (opsa.flatMap opL)) (hsrcb : Src φ vb 83 opsb.length (opsb.flatMap opL)) (id : Id) (w : World) (hφ : HpOK φ w) (hnd : (φ.map Prod.fst).Nodup) : Ret Try.prog 11 [va, vb, idK id] w [] (fun u _ => u = .bool true) := by
  refine enter (n := 176) (args := [va, vb, idK id]) [] φ Try.func11 rfl rfl rfl hφ hnd ?_
  refine wc_seq ?_
  refine wc_plain [(0, .x true), (1, .x true)] (by kernel_rfl) ?_
  refine ws_box rfl rfl rfl rfl ?_
  intro b5 hb5
  refine ws_l rfl rfl rfl rfl (rd_assign rfl) ?_
  refine ws_nil ?_
  refine qe_then ?_
  refine wc_seq ?_
  refine wc_seq ?_
  refine wc_plain [(0, .x true), (1, .x true)] (by kernel_rfl) ?_
  refine ws_callp rfl rfl rfl rfl rfl (En.go) (fun w hp hn ho => known_ret w) ?_
  refine ws_l rfl rfl rfl rfl (rd_not rfl) ?_
  refine ws_nil ?_
  refine qe_then ?_
  refine wc_false rfl ?_
  refine wc_skip ?_
  refine qe_then ?_
  refine wc_seq ?_
  refine wc_plain [(0, .x true), (1, .x true), (2, .x true), (3, .x true), (4, .x true), (5, .x true), (6, .x true), (7, .x true), (8, .x true)] (by kernel_rfl) ?_
  refine ws_l rfl rfl rfl rfl (rd_move rfl) ?_
  refine ws_call rfl rfl rfl rfl rfl (En.go) (fun w hp hn ho => play_ret va φ opsa hsrca w (hp.mono SubH.mem) hnd) (fun _ h => by cases h) (fun hh q h => by first | (cases h; done) | exact hh q h) ?_
  rintro v24 wa wb hpo hon hon2 hp1 ⟨p, m, k, es, c, ws, d, L, W, νs, own, v3, ν3, rfl, hset, hsnd, hsfar, hL, hW, hok, hown, hol⟩
  refine ⟨_, hset, hsnd, fun b hb => .inl (hsfar b hb), ?_⟩
  simp only [List.cons_append, List.append_assoc]
  have hpb := Nat.le_trans hon.size (hsfar p (by simp))
  have hmb := Nat.le_trans hon.size (hsfar m (by simp))
  have hkb := Nat.le_trans hon.size (hsfar k (by simp))
  replace hown := hown.mono hon.size
  refine ws_l rfl rfl rfl rfl (rd_move rfl) ?_
  refine ws_l rfl rfl rfl rfl (rd_extract rfl) ?_
  refine ws_l rfl rfl rfl rfl (rd_extract rfl) ?_
  refine ws_l rfl rfl rfl rfl (rd_extract rfl) ?_
  refine ws_l rfl rfl rfl rfl (rd_assign rfl) ?_
  refine ws_l rfl rfl rfl rfl (rd_assign rfl) ?_
  refine ws_l rfl rfl rfl rfl (rd_assign rfl) ?_
  refine ws_nil ?_
  refine qe_then ?_
  refine wc_keep [(1, _), (5, _), (6, _), (7, _), (8, _), (9, _)] rfl ?_
  refine wc_seq ?_
  refine wc_plain [(0, .x true), (1, .x true), (2, .x true), (3, .x true), (4, .x true), (5, .x true), (6, .x true), (7, .x true), (8, .x true)] (by kernel_rfl) ?_
  refine ws_l rfl rfl rfl rfl (rd_move rfl) ?_
  refine ws_call rfl rfl rfl rfl rfl (En.go) (fun w hp hn ho => play_ret vb φ opsb hsrcb w (hp.mono SubH.mem) hnd) (fun _ h => by cases h) (fun hh q h => by first | (cases h; done) | exact hh q h) ?_
  rintro v30 wa wb hpo hon hon2 hp1 ⟨pB, mB, kB, esB, cB, wsB, dB, LB, WB, νsB, ownB, v3B, ν3B, rfl, hset, hsnd, hsfar, hLB, hWB, hokB, hownB, holB⟩
  refine ⟨_, hset, hsnd, fun b hb => .inl (hsfar b hb), ?_⟩
  simp only [List.cons_append, List.append_assoc]
  have hpbB := Nat.le_trans hon.size (hsfar pB (by simp))
  have hmbB := Nat.le_trans hon.size (hsfar mB (by simp))
  have hkbB := Nat.le_trans hon.size (hsfar kB (by simp))
  replace hownB := hownB.mono hon.size
  refine ws_l rfl rfl rfl rfl (rd_move rfl) ?_
  refine ws_l rfl rfl rfl rfl (rd_extract rfl) ?_
  refine ws_l rfl rfl rfl rfl (rd_extract rfl) ?_
  refine ws_l rfl rfl rfl rfl (rd_extract rfl) ?_
  refine ws_l rfl rfl rfl rfl (rd_assign rfl) ?_
  refine ws_l rfl rfl rfl rfl (rd_assign rfl) ?_
  refine ws_l rfl rfl rfl rfl (rd_assign rfl) ?_
  refine ws_nil ?_
  refine qe_then ?_
  refine wc_keep [(5, _), (6, _), (7, _), (8, _), (9, _), (10, _), (11, _), (12, _)] rfl ?_
  refine wc_seq ?_
  refine wc_seq ?_
  refine wc_plain [(0, .x true), (1, .x true), (2, .x true), (3, .x true), (4, .x true), (5, .x true)] (by kernel_rfl) ?_
  refine ws_l rfl rfl rfl rfl (rd_move rfl) ?_
  refine ws_l rfl rfl rfl rfl (rd_not rfl) ?_
  refine ws_l rfl rfl rfl rfl (rd_move rfl) ?_
  refine ws_l rfl rfl rfl rfl (rd_move rfl) ?_
  refine ws_l rfl rfl rfl rfl (rd_not rfl) ?_
  refine ws_l rfl rfl rfl rfl (rd_pick_f rfl rfl) ?_
  refine ws_nil ?_
  refine qe_then ?_
  refine wc_keep [(5, _), (6, _), (7, _), (8, _), (10, _), (11, _), (39, _)] rfl ?_
  refine wc_false rfl ?_
  refine wc_skip ?_
  refine qe_then ?_
  refine wc_seq ?_
  refine wc_plain [(0, .x true), (1, .x true), (2, .x true), (3, .x true), (4, .x true), (5, .x true)] (by kernel_rfl) ?_
  refine ws_l rfl rfl rfl rfl (rd_move rfl) ?_
  refine ws_l rfl rfl rfl rfl (rd_lenO hown rfl Try.underlying22) ?_
  refine ws_l rfl rfl rfl rfl (rd_move rfl) ?_
  refine ws_l rfl rfl rfl rfl (rd_lenO hownB rfl Try.underlying22) ?_
  refine ws_lcmp rfl rfl rfl (rfl) (rfl) (rfl) ?_ ?_
  · intro h44
    have hl0 : own.length = ownB.length := by simp only [cmpP] at h44; omega
    refine ws_l rfl rfl rfl rfl (rd_assign rfl) ?_
    refine ws_nil ?_
    refine qe_then ?_
    refine wc_keep [(5, _), (6, _), (7, _), (8, _), (10, _), (11, _), (13, _)] rfl ?_
    refine wc_seq ?_
    refine wc_seq ?_
    refine wc_plain [(0, .x true)] (by kernel_rfl) ?_
    refine ws_l rfl rfl rfl rfl (rd_assign rfl) ?_
    refine ws_nil ?_
    refine qe_then ?_
    refine wc_block ?_
    refine wc_loop (fun mz ac w1 => ∃ (i : Nat) (eb : Bool), mz = own.length - i ∧ (i ≤ own.length) ∧ (eb = (decide (own.length = ownB.length) && (own.take i).all fun x => decide (x ∈ ownB))) ∧ St 176 w [] [(5, ptr b5), (7, ptr p), (8, v3), (10, ptr pB), (11, v3B), (13, .bool eb), (14, I i)] ((b5, .cells (idC id) 37 (0, 0)) :: setC p m k es c ws d (νs ++ (ν3 ++ (setC pB mB kB esB cB wsB dB (νsB ++ ν3B))))) ac w1) _ (fun ac w1 hs => ⟨0, true, rfl, (by omega), (by simp [hl0]), st_sub hs _ rfl⟩) ?_
    rintro _ ac1 wl1 ⟨i, eb, rfl, hi, heb, hs1⟩
    refine wc_at hs1 ?_
    refine wc_seq ?_
    refine wc_seq ?_
    refine wc_plain [(0, .x true), (1, .x true), (2, .x true), (3, .x true), (4, .x true), (5, .x true), (6, .x true)] (by kernel_rfl) ?_
    refine ws_l rfl rfl rfl rfl (rd_move rfl) ?_
    refine ws_l rfl rfl rfl rfl (rd_move rfl) ?_
    refine ws_l rfl rfl rfl rfl (rd_lenO hown rfl Try.underlying22) ?_
    refine ws_lcmp rfl rfl rfl (rfl) (rfl) (rfl) ?_ ?_
    · intro h48
      refine ws_l rfl rfl rfl rfl (rd_move rfl) ?_
      cases eb
      ·
        refine ws_l rfl rfl rfl rfl (rd_move rfl) ?_
        refine ws_l rfl rfl rfl rfl (rd_pick_t rfl rfl) ?_
        refine ws_nil ?_
        refine qe_then ?_
        refine wc_false rfl ?_
        refine wc_exit ?_
        refine qe_then_exit ?_
        refine qe_then_exit ?_
        refine qe_block_exit ?_
        refine qe_then ?_
        refine wc_keep [(5, _), (7, _), (10, _), (13, _)] rfl ?_
        refine wc_seq ?_
        refine wc_seq ?_
        refine wc_plain [(0, .x true), (1, .x true), (2, .x true), (3, .x true), (4, .x true), (5, .x true), (6, .x true), (7, .x true), (8, .x true), (9, .x true), (10, .x true), (11, .x true)] (by kernel_rfl) ?_
        refine ws_l rfl rfl rfl rfl (rd_move rfl) ?_
        refine ws_l rfl rfl rfl rfl (rd_move rfl) ?_
        refine ws_callp rfl rfl rfl rfl rfl (En.go) (fun w hp hn ho => equal_ret p k pB kB m mB es esB c cB L LB hL hLB (νs ++ νsB) (fun q hq => (hok.grp q hq).mono (fun q hq => List.mem_append_left _ hq)) (fun id y h => ((hokB.look h).2.2).mono (fun q hq => List.mem_append_right _ hq)) w (hp.mono SubH.mem) (SubH.nd hn)) ?_
        refine ws_l rfl rfl rfl rfl (rd_move rfl) ?_
        have heqo : eqOB own ownB = false := heq_done (.inr rfl) heb
        refine ws_l rfl rfl rfl rfl (rd_bneq rfl rfl Try.underlying4 ((eqM_eqO hok hokB).trans heqo)) ?_
        refine ws_l rfl rfl rfl rfl (rd_move rfl) ?_
        refine ws_l rfl rfl rfl rfl (rd_move rfl) ?_
        refine ws_l rfl rfl rfl rfl (rd_move rfl) ?_
        refine ws_callp rfl rfl rfl rfl rfl (En.go) (fun w hp hn ho => equal_ret pB kB p k mB m esB es cB c LB L hLB hL (νsB ++ νs) (fun q hq => (hokB.grp q hq).mono (fun q hq => List.mem_append_left _ hq)) (fun id y h => ((hok.look h).2.2).mono (fun q hq => List.mem_append_right _ hq)) w (hp.mono SubH.mem) (SubH.nd hn)) ?_
        refine ws_l rfl rfl rfl rfl (rd_move rfl) ?_
        refine ws_l rfl rfl rfl rfl (rd_bneq rfl rfl Try.underlying4 ((eqM_eqO hokB hok).trans ((eqOB_comm hokB.nd hok.nd).trans heqo))) ?_
        refine ws_l rfl rfl rfl rfl (rd_pick_f rfl rfl) ?_
        refine ws_nil ?_
        refine qe_then ?_
        refine wc_keep [(5, _), (7, _), (85, _)] rfl ?_
        refine wc_false rfl ?_
        refine wc_skip ?_
        refine qe_then ?_
        refine wc_seq ?_
        refine wc_plain [(0, .x true), (1, .x true), (2, .x true)] (by kernel_rfl) ?_
        refine ws_l rfl rfl rfl rfl (rd_move rfl) ?_
        refine ws_call rfl rfl rfl rfl rfl (En.go) (fun w hp hn ho => clone_ret p m k es ws c d L W own νs hL hW hok (by omega) w (hp.mono SubH.mem) (SubH.nd hn)) (fun _ h => by cases h) (fun hh q h => by first | (cases h; done) | exact hh q h) ?_
        rintro v87 wa wb hpo hon hon2 hp1 ⟨p2, m2, k2, es2, c2, ws2, d2, L2, W2, ν2, rfl, hset2, hsnd2, hsfar2, hL2, hW2, hok2⟩
        refine ⟨_, hset2, hsnd2, fun b hb => .inl (hsfar2 b hb), ?_⟩
        simp only [List.cons_append]
        have hmb2 := Nat.le_trans hon.size (hsfar2 m2 (by simp))
        have hkb2 := Nat.le_trans hon.size (hsfar2 k2 (by simp))
        refine ws_l rfl rfl rfl rfl (rd_assign rfl) ?_
        refine ws_nil ?_
        refine qe_then ?_
        refine wc_seq ?_
        refine wc_seq ?_
        refine wc_plain [(0, .x true), (1, .x true), (2, .x true), (3, .x true), (4, .x true), (5, .x true), (6, .x true), (7, .x true)] (by kernel_rfl) ?_
        refine ws_l rfl rfl rfl rfl (rd_move rfl) ?_
        refine ws_l rfl rfl rfl rfl (rd_ptr_nil rfl rfl Try.underlying49 rfl) ?_
        refine ws_l rfl rfl rfl rfl (rd_move rfl) ?_
        refine ws_l rfl rfl rfl rfl (rd_move rfl) ?_
        refine ws_l rfl rfl rfl rfl (rd_move rfl) ?_
        refine ws_callp rfl rfl rfl rfl rfl (En.go) (fun w hp hn ho => by have h := equal_ret p2 k2 p k m2 m es2 es c2 c L2 L hL2 hL (ν2 ++ νs) (fun q hq => hok2.grp q hq) (fun id y h => ((hok.look h).2.2).mono (fun q hq => List.mem_append_right _ hq)) w (hp.mono SubH.mem) (SubH.nd hn); rwa [eqM_eqO hok2 hok, eqOB_refl] at h) ?_
        refine ws_l rfl rfl rfl rfl (rd_not rfl) ?_
        refine ws_l rfl rfl rfl rfl (rd_pick_f rfl rfl) ?_
        refine ws_nil ?_
        refine qe_then ?_
        refine wc_keep [(5, _), (7, _), (16, _), (95, _)] rfl ?_
        refine wc_false rfl ?_
        refine wc_skip ?_
        refine qe_then ?_
        refine wc_seq ?_
        refine wc_seq ?_
        refine wc_plain [(0, .x true), (1, .x true), (2, .x true), (3, .x true), (4, .x true), (5, .x true), (6, .x true), (7, .x true), (8, .x true), (9, .x true), (10, .x true), (11, .x true), (12, .x true), (13, .x true), (14, .x true)] (by kernel_rfl) ?_
        refine ws_l rfl rfl rfl rfl (rd_move rfl) ?_
        refine ws_l rfl rfl rfl rfl (rd_load rfl) ?_
        refine ws_call rfl rfl rfl rfl rfl (En.go) (fun w hp hn ho => drop_ret p2 m2 k2 es2 ws2 c2 d2 L2 W2 own (ν2 ++ νs) hL2 hW2 hok2 (by omega) id w (hp.mono SubH.mem) (SubH.nd hn)) (fun b hb => by simp only [List.mem_cons, List.not_mem_nil, or_false] at hb; rcases hb with rfl | rfl; exact .inl hmb2; exact .inl hkb2) (fun hh q h => by first | (cases h; done) | exact hh q h) ?_
        rintro v98 wa wb hpo hon hon2 hp1 ⟨rfl, es1, c1, ws1, d1, L1, W1, ν1, hp2, hnd2, hfar2, hL1, hW1, hok1⟩
        refine ⟨(m2, .map es1 c1) :: (k2, .map ws1 d1) :: ν1, hp2, hnd2, fun b hb => by simp only [List.map_cons, List.mem_cons] at hb; rcases hb with rfl | rfl | hb; exact .inr (by simp); exact .inr (by simp); exact .inl (hfar2 b hb), ?_⟩
        simp only [List.cons_append]
        by_cases hid : ∃ x ∈ own, x.id = id
        ·
          refine ws_l rfl rfl rfl rfl (rd_cmp_t rfl rfl rfl (by simp only [cmpP]; rw [dropE, if_pos hid])) ?_
          have hshort : (dropO own id).length ≠ own.length := by obtain ⟨x, hx, rfl⟩ := hid; have := dropO_short hx; omega
          refine ws_l rfl rfl rfl rfl (rd_move rfl) ?_
          refine ws_l rfl rfl rfl rfl (rd_move rfl) ?_
          refine ws_l rfl rfl rfl rfl (rd_move rfl) ?_
          refine ws_callp rfl rfl rfl rfl rfl (En.go) (fun w hp hn ho => by have h := equal_ret p2 k2 p k m2 m es1 es c1 c L1 L hL1 hL (ν1 ++ (ν2 ++ νs)) (fun q hq => hok1.grp q hq) (fun id y h => ((hok.look h).2.2).mono (fun q hq => List.mem_append_right _ (List.mem_append_right _ hq))) w (hp.mono SubH.mem) (SubH.nd hn); rwa [eqM_eqO hok1 hok, eqOB_len hshort] at h) ?_
          refine ws_l rfl rfl rfl rfl (rd_move rfl) ?_
          refine ws_l rfl rfl rfl rfl (rd_move rfl) ?_
          refine ws_l rfl rfl rfl rfl (rd_load rfl) ?_
          refine ws_callp rfl rfl rfl rfl rfl (En.go) (fun w hp hn ho => by have h := has_ret p m k es ws c d L W own νs hL hW hok (by omega) id w (hp.mono SubH.mem) (SubH.nd hn); rwa [decide_eq_true hid] at h) ?_
          refine ws_l rfl rfl rfl rfl (rd_not rfl) ?_
          refine ws_l rfl rfl rfl rfl (rd_pick_f rfl rfl) ?_
          refine ws_l rfl rfl rfl rfl (rd_pick_t rfl rfl) ?_
          refine ws_nil ?_
          refine qe_then ?_
          refine wc_keep [(5, _), (7, _), (110, _)] rfl ?_
          refine wc_false rfl ?_
          refine wc_skip ?_
          refine qe_then ?_
          refine wc_seq ?_
          refine wc_plain [(0, .x true)] (by kernel_rfl) ?_
          refine ws_l rfl rfl rfl rfl (rd_assign rfl) ?_
          refine ws_nil ?_
          refine qe_then ?_
          refine wc_seq ?_
          refine wc_plain [(0, .x true), (1, .x true), (2, .x true), (3, .x true), (4, .x true), (5, .x true), (6, .x true), (7, .x true), (8, .x true)] (by kernel_rfl) ?_
          refine ws_l rfl rfl rfl rfl (rd_move rfl) ?_
          refine ws_l rfl rfl rfl rfl (rd_load rfl) ?_
          refine ws_callp rfl rfl rfl rfl rfl (En.go) (fun w hp hn ho => end_nil id w) ?_
          refine ws_l rfl rfl rfl rfl (rd_move rfl) ?_
          refine ws_l rfl rfl rfl rfl (rd_extract rfl) ?_
          refine ws_l rfl rfl rfl rfl (rd_extract rfl) ?_
          refine ws_alloc rfl rfl rfl ?_
          intro b18 hb18
          refine ws_store rfl rfl rfl rfl (by first | exact .inl (by assumption) | exact .inr (by simp)) (fun _ h _ => by first | (cases h; done) | exact List.mem_cons_of_mem _ h | exact List.mem_cons_of_mem _ (List.mem_cons_of_mem _ h) | (simp at h ⊢; simp [h])) ?_
          refine ws_l rfl rfl rfl rfl (rd_assign rfl) ?_
          refine ws_nil ?_
          refine qe_then ?_
          refine wc_keep [(5, _), (7, _), (17, _), (19, _)] rfl ?_
          refine wc_seq ?_
          refine wc_plain [(0, .x true), (1, .x true), (2, .x true), (3, .x true), (4, .x true), (5, .x true), (6, .x true), (7, .x true), (8, .x true), (9, .x true), (10, .x true), (11, .x true), (12, .x true), (13, .x true), (14, .x true), (15, .x true), (16, .x true), (17, .x true), (18, .x true), (19, .x true), (20, .x true), (21, .x true), (22, .x true), (23, .x true), (24, .x true), (25, .x true), (26, .x true), (27, .x true), (28, .x true), (29, .x true), (30, .x true), (31, .x true), (32, .x true), (33, .x true), (34, .x true), (35, .x true), (36, .x true), (37, .x true), (38, .x true), (39, .x true), (40, .x true), (41, .x true), (42, .x true), (43, .x true), (44, .x true), (45, .x true), (46, .x true), (47, .x true), (48, .x true), (49, .x true), (50, .x true), (51, .x true), (52, .x true), (53, .x true), (54, .x true), (55, .x true), (56, .x true), (57, .x true), (58, .x true), (59, .x true)] (by kernel_rfl) ?_
          refine ws_l rfl rfl rfl rfl (rd_move rfl) ?_
          refine ws_l rfl rfl rfl rfl (rd_build rfl) ?_
          refine ws_callp rfl rfl rfl rfl rfl (En.go) (fun w hp hn ho => add_nil w) ?_
          refine ws_l rfl rfl rfl rfl (rd_cmp_t rfl rfl rfl (by simp [cmpP])) ?_
          refine ws_l rfl rfl rfl rfl (rd_move rfl) ?_
          refine ws_l rfl rfl rfl rfl (rd_move rfl) ?_
          refine ws_l rfl rfl rfl rfl (rd_load rfl) ?_
          refine ws_callp rfl rfl rfl rfl rfl (En.go) (fun w hp hn ho => drop_nil id w) ?_
          refine ws_l rfl rfl rfl rfl (rd_cmp_t rfl rfl rfl (by simp [cmpP])) ?_
          refine ws_l rfl rfl rfl rfl (rd_pick_t rfl rfl) ?_
          refine ws_l rfl rfl rfl rfl (rd_move rfl) ?_
          refine ws_l rfl rfl rfl rfl (rd_move rfl) ?_
          refine ws_l rfl rfl rfl rfl (rd_load rfl) ?_
          refine ws_callp rfl rfl rfl rfl rfl (En.go) (fun w hp hn ho => has_nil id w) ?_
          refine ws_l rfl rfl rfl rfl (rd_not rfl) ?_
          refine ws_l rfl rfl rfl rfl (rd_pick_t rfl rfl) ?_
          refine ws_l rfl rfl rfl rfl (rd_move rfl) ?_
          refine ws_l rfl rfl rfl rfl (rd_move rfl) ?_
          refine ws_l rfl rfl rfl rfl (rd_load rfl) ?_
          refine ws_callp rfl rfl rfl rfl rfl (En.go) (fun w hp hn ho => wd_nil id w) ?_
          refine ws_l rfl rfl rfl rfl (rd_not rfl) ?_
          refine ws_l rfl rfl rfl rfl (rd_pick_t rfl rfl) ?_
          refine ws_l rfl rfl rfl rfl (rd_move rfl) ?_
          refine ws_l rfl rfl rfl rfl (rd_move rfl) ?_
          refine ws_l rfl rfl rfl rfl (rd_not rfl) ?_
          refine ws_l rfl rfl rfl rfl (rd_pick_t rfl rfl) ?_
          refine ws_l rfl rfl rfl rfl (rd_move rfl) ?_
          refine ws_l rfl rfl rfl rfl (rd_move rfl) ?_
          refine ws_l rfl rfl rfl rfl (rd_load rfl) ?_
          refine ws_callp rfl rfl rfl rfl rfl (En.go) (fun w hp hn ho => path_nil id w) ?_
          refine ws_l rfl rfl rfl rfl (rd_len rfl Try.underlying26) ?_
          refine ws_l rfl rfl rfl rfl (rd_cmp_t rfl rfl rfl (by simp [cmpP])) ?_
          refine ws_l rfl rfl rfl rfl (rd_pick_t rfl rfl) ?_
          refine ws_l rfl rfl rfl rfl (rd_move rfl) ?_
          refine ws_l rfl rfl rfl rfl (rd_move rfl) ?_
          refine ws_l rfl rfl rfl rfl (rd_load rfl) ?_
          refine ws_callp rfl rfl rfl rfl rfl (En.go) (fun w hp hn ho => succ_nil id w) ?_
          refine ws_l rfl rfl rfl rfl (rd_len rfl Try.underlying26) ?_
          refine ws_l rfl rfl rfl rfl (rd_cmp_t rfl rfl rfl (by simp [cmpP])) ?_
          refine ws_l rfl rfl rfl rfl (rd_pick_t rfl rfl) ?_
          refine ws_l rfl rfl rfl rfl (rd_move rfl) ?_
          refine ws_l rfl rfl rfl rfl (rd_move rfl) ?_
          refine ws_callp rfl rfl rfl rfl rfl (En.go) (fun w hp hn ho => len_nil w) ?_
          refine ws_l rfl rfl rfl rfl (rd_cmp_t rfl rfl rfl (by simp [cmpP])) ?_
          refine ws_l rfl rfl rfl rfl (rd_pick_t rfl rfl) ?_
          refine ws_l rfl rfl rfl rfl (rd_move rfl) ?_
          refine ws_l rfl rfl rfl rfl (rd_move rfl) ?_
          refine ws_callp rfl rfl rfl rfl rfl (En.go) (fun w hp hn ho => clone_nil w) ?_
          refine ws_l rfl rfl rfl rfl (rd_nil_nil rfl rfl Try.underlying49 rfl) ?_
          refine ws_l rfl rfl rfl rfl (rd_pick_t rfl rfl) ?_
          refine ws_l rfl rfl rfl rfl (rd_move rfl) ?_
          refine ws_l rfl rfl rfl rfl (rd_move rfl) ?_
          refine ws_callp rfl rfl rfl rfl rfl (En.go) (fun w hp hn ho => equal_nils w) ?_
          refine ws_l rfl rfl rfl rfl (rd_pick_t rfl rfl) ?_
          refine ws_l rfl rfl rfl rfl (rd_move rfl) ?_
          refine ws_l rfl rfl rfl rfl (rd_move rfl) ?_
          refine ws_callp rfl rfl rfl rfl rfl (En.go) (fun w hp hn ho => equal_nil p w) ?_
          refine ws_l rfl rfl rfl rfl (rd_not rfl) ?_
          refine ws_l rfl rfl rfl rfl (rd_pick_t rfl rfl) ?_
          refine ws_l rfl rfl rfl rfl (rd_assign rfl) ?_
          refine ws_nil ?_
          refine qe_then ?_
          refine wc_keep [(6, _)] rfl ?_
          refine wc_ret ?_
          refine qe_body _ (.inl rfl) (res1 rfl (RV.tmp rfl)) ?_
          exact ret_end fun w hp hn ho => rfl
        ·
          refine ws_l rfl rfl rfl rfl (rd_cmp_f rfl rfl rfl (by simp only [cmpP]; rw [dropE, if_neg hid]; decide)) ?_
          refine ws_l rfl rfl rfl rfl (rd_move rfl) ?_
          refine ws_xskip rfl rfl rfl rfl ?_
          refine ws_xskip rfl rfl rfl rfl ?_
          refine ws_xskip rfl rfl rfl rfl ?_
          refine ws_xskip rfl rfl rfl rfl ?_
          refine ws_xskip rfl rfl rfl rfl ?_
          refine ws_xskip rfl rfl rfl rfl ?_
          refine ws_xskip rfl rfl rfl rfl ?_
          refine ws_xskip rfl rfl rfl rfl ?_
          refine ws_xskip rfl rfl rfl rfl ?_
          refine ws_l rfl rfl rfl rfl (rd_pick_f rfl rfl) ?_
          refine ws_nil ?_
          refine qe_then ?_
          refine wc_keep [(5, _), (7, _), (110, _)] rfl ?_
          refine wc_false rfl ?_
          refine wc_skip ?_
          refine qe_then ?_
          refine wc_seq ?_
          refine wc_plain [(0, .x true)] (by kernel_rfl) ?_
          refine ws_l rfl rfl rfl rfl (rd_assign rfl) ?_
          refine ws_nil ?_
          refine qe_then ?_
          refine wc_seq ?_
          refine wc_plain [(0, .x true), (1, .x true), (2, .x true), (3, .x true), (4, .x true), (5, .x true), (6, .x true), (7, .x true), (8, .x true)] (by kernel_rfl) ?_
          refine ws_l rfl rfl rfl rfl (rd_move rfl) ?_
          refine ws_l rfl rfl rfl rfl (rd_load rfl) ?_
          refine ws_callp rfl rfl rfl rfl rfl (En.go) (fun w hp hn ho => end_nil id w) ?_
          refine ws_l rfl rfl rfl rfl (rd_move rfl) ?_
          refine ws_l rfl rfl rfl rfl (rd_extract rfl) ?_
          refine ws_l rfl rfl rfl rfl (rd_extract rfl) ?_
          refine ws_alloc rfl rfl rfl ?_
          intro b18 hb18
          refine ws_store rfl rfl rfl rfl (by first | exact .inl (by assumption) | exact .inr (by simp)) (fun _ h _ => by first | (cases h; done) | exact List.mem_cons_of_mem _ h | exact List.mem_cons_of_mem _ (List.mem_cons_of_mem _ h) | (simp at h ⊢; simp [h])) ?_
          refine ws_l rfl rfl rfl rfl (rd_assign rfl) ?_
          refine ws_nil ?_
          refine qe_then ?_
          refine wc_keep [(5, _), (7, _), (17, _), (19, _)] rfl ?_
          refine wc_seq ?_
          refine wc_plain [(0, .x true), (1, .x true), (2, .x true), (3, .x true), (4, .x true), (5, .x true), (6, .x true), (7, .x true), (8, .x true), (9, .x true), (10, .x true), (11, .x true), (12, .x true), (13, .x true), (14, .x true), (15, .x true), (16, .x true), (17, .x true), (18, .x true), (19, .x true), (20, .x true), (21, .x true), (22, .x true), (23, .x true), (24, .x true), (25, .x true), (26, .x true), (27, .x true), (28, .x true), (29, .x true), (30, .x true), (31, .x true), (32, .x true), (33, .x true), (34, .x true), (35, .x true), (36, .x true), (37, .x true), (38, .x true), (39, .x true), (40, .x true), (41, .x true), (42, .x true), (43, .x true), (44, .x true), (45, .x true), (46, .x true), (47, .x true), (48, .x true), (49, .x true), (50, .x true), (51, .x true), (52, .x true), (53, .x true), (54, .x true), (55, .x true), (56, .x true), (57, .x true), (58, .x true), (59, .x true)] (by kernel_rfl) ?_
          refine ws_l rfl rfl rfl rfl (rd_move rfl) ?_
          refine ws_l rfl rfl rfl rfl (rd_build rfl) ?_
          refine ws_callp rfl rfl rfl rfl rfl (En.go) (fun w hp hn ho => add_nil w) ?_
          refine ws_l rfl rfl rfl rfl (rd_cmp_t rfl rfl rfl (by simp [cmpP])) ?_
          refine ws_l rfl rfl rfl rfl (rd_move rfl) ?_
          refine ws_l rfl rfl rfl rfl (rd_move rfl) ?_
          refine ws_l rfl rfl rfl rfl (rd_load rfl) ?_
          refine ws_callp rfl rfl rfl rfl rfl (En.go) (fun w hp hn ho => drop_nil id w) ?_
          refine ws_l rfl rfl rfl rfl (rd_cmp_t rfl rfl rfl (by simp [cmpP])) ?_
          refine ws_l rfl rfl rfl rfl (rd_pick_t rfl rfl) ?_
          refine ws_l rfl rfl rfl rfl (rd_move rfl) ?_
          refine ws_l rfl rfl rfl rfl (rd_move rfl) ?_
          refine ws_l rfl rfl rfl rfl (rd_load rfl) ?_
          refine ws_callp rfl rfl rfl rfl rfl (En.go) (fun w hp hn ho => has_nil id w) ?_
          refine ws_l rfl rfl rfl rfl (rd_not rfl) ?_
          refine ws_l rfl rfl rfl rfl (rd_pick_t rfl rfl) ?_
          refine ws_l rfl rfl rfl rfl (rd_move rfl) ?_
          refine ws_l rfl rfl rfl rfl (rd_move rfl) ?_
          refine ws_l rfl rfl rfl rfl (rd_load rfl) ?_
          refine ws_callp rfl rfl rfl rfl rfl (En.go) (fun w hp hn ho => wd_nil id w) ?_
          refine ws_l rfl rfl rfl rfl (rd_not rfl) ?_
          refine ws_l rfl rfl rfl rfl (rd_pick_t rfl rfl) ?_
          refine ws_l rfl rfl rfl rfl (rd_move rfl) ?_
          refine ws_l rfl rfl rfl rfl (rd_move rfl) ?_
          refine ws_l rfl rfl rfl rfl (rd_not rfl) ?_
          refine ws_l rfl rfl rfl rfl (rd_pick_t rfl rfl) ?_
          refine ws_l rfl rfl rfl rfl (rd_move rfl) ?_
          refine ws_l rfl rfl rfl rfl (rd_move rfl) ?_
          refine ws_l rfl rfl rfl rfl (rd_load rfl) ?_
          refine ws_callp rfl rfl rfl rfl rfl (En.go) (fun w hp hn ho => path_nil id w) ?_
          refine ws_l rfl rfl rfl rfl (rd_len rfl Try.underlying26) ?_
          refine ws_l rfl rfl rfl rfl (rd_cmp_t rfl rfl rfl (by simp [cmpP])) ?_
          refine ws_l rfl rfl rfl rfl (rd_pick_t rfl rfl) ?_
          refine ws_l rfl rfl rfl rfl (rd_move rfl) ?_
          refine ws_l rfl rfl rfl rfl (rd_move rfl) ?_
          refine ws_l rfl rfl rfl rfl (rd_load rfl) ?_
          refine ws_callp rfl rfl rfl rfl rfl (En.go) (fun w hp hn ho => succ_nil id w) ?_
          refine ws_l rfl rfl rfl rfl (rd_len rfl Try.underlying26) ?_
          refine ws_l rfl rfl rfl rfl (rd_cmp_t rfl rfl rfl (by simp [cmpP])) ?_
          refine ws_l rfl rfl rfl rfl (rd_pick_t rfl rfl) ?_
          refine ws_l rfl rfl rfl rfl (rd_move rfl) ?_
          refine ws_l rfl rfl rfl rfl (rd_move rfl) ?_
          refine ws_callp rfl rfl rfl rfl rfl (En.go) (fun w hp hn ho => len_nil w) ?_
          refine ws_l rfl rfl rfl rfl (rd_cmp_t rfl rfl rfl (by simp [cmpP])) ?_
          refine ws_l rfl rfl rfl rfl (rd_pick_t rfl rfl) ?_
          refine ws_l rfl rfl rfl rfl (rd_move rfl) ?_
          refine ws_l rfl rfl rfl rfl (rd_move rfl) ?_
          refine ws_callp rfl rfl rfl rfl rfl (En.go) (fun w hp hn ho => clone_nil w) ?_
          refine ws_l rfl rfl rfl rfl (rd_nil_nil rfl rfl Try.underlying49 rfl) ?_
          refine ws_l rfl rfl rfl rfl (rd_pick_t rfl rfl) ?_
          refine ws_l rfl rfl rfl rfl (rd_move rfl) ?_
          refine ws_l rfl rfl rfl rfl (rd_move rfl) ?_
          refine ws_callp rfl rfl rfl rfl rfl (En.go) (fun w hp hn ho => equal_nils w) ?_
          refine ws_l rfl rfl rfl rfl (rd_pick_t rfl rfl) ?_
          refine ws_l rfl rfl rfl rfl (rd_move rfl) ?_
          refine ws_l rfl rfl rfl rfl (rd_move rfl) ?_
          refine ws_callp rfl rfl rfl rfl rfl (En.go) (fun w hp hn ho => equal_nil p w) ?_
          refine ws_l rfl rfl rfl rfl (rd_not rfl) ?_
          refine ws_l rfl rfl rfl rfl (rd_pick_t rfl rfl) ?_
          refine ws_l rfl rfl rfl rfl (rd_assign rfl) ?_
          refine ws_nil ?_
          refine qe_then ?_
          refine wc_keep [(6, _)] rfl ?_
          refine wc_ret ?_
          refine qe_body _ (.inl rfl) (res1 rfl (RV.tmp rfl)) ?_
          exact ret_end fun w hp hn ho => rfl
      ·
        refine ws_l rfl rfl rfl rfl (rd_move rfl) ?_
        refine ws_l rfl rfl rfl rfl (rd_pick_t rfl rfl) ?_
        refine ws_nil ?_
        refine qe_then ?_
        refine wc_true rfl ?_
        refine wc_skip ?_
        refine qe_then ?_
        refine wc_seq ?_
        refine wc_block ?_
        refine wc_seq ?_
        refine wc_plain [(0, .x true), (1, .x true), (2, .x true), (3, .x true), (4, .x true), (5, .x true), (6, .x true), (7, .x true)] (by kernel_rfl) ?_
        refine ws_l rfl rfl rfl rfl (rd_move rfl) ?_
        refine ws_l rfl rfl rfl rfl (rd_move rfl) ?_
        refine ws_l rfl rfl rfl rfl (rd_move rfl) ?_
        obtain ⟨bv, ov, cv, csv, Ev, frv, rfl, hmv, hcv⟩ := Src.opened hown.src (by omega)
        have hmiv : HM bv (.cells csv Ev frv) ν3 := ⟨hmv⟩
        obtain ⟨x, hx⟩ := at_ex (l := own) (j := i) (by simp only [cmpP] at h48; omega)
        have atx : AtR csv (ov + i * 82) x := at_r hcv hx
        refine ws_l rfl rfl rfl rfl (rd_index (ov + i * 82) rfl rfl Try.underlying22 Try.sizeOf46 ⟨by omega, by omega⟩ (by simp)) ?_
        refine ws_l rfl rfl rfl rfl (rd_fieldAddr rfl) ?_
        refine ws_l rfl rfl rfl rfl (rd_load rfl) ?_
        refine ws_callp rfl rfl rfl rfl rfl (En.go) (fun w hp hn ho => find_ref _ ν3B ownB hownB.src (by omega) x.id w (hp.mono SubH.mem) (SubH.nd hn)) ?_
        refine ws_l rfl rfl rfl rfl (rd_assign rfl) ?_
        refine ws_nil ?_
        refine qe_then ?_
        refine wc_drawn mixedT _ (fun _ h => h) [(0, .r), (1, .r), (2, .r), (3, .r), (4, .r), (5, .r), (6, .r), (7, .r), (8, .r), (9, .r), (10, .r), (11, .x true), (12, .x true), (13, .x true)] (by kernel_rfl) ?_
        refine ws_r rfl rfl rfl rfl (rd_move rfl) ?_
        rcases findR_first x.id ownB 0 with ⟨hf1, hf2⟩ | ⟨kx, y, hy, hye, hfe, hf4⟩
        ·
          refine ws_r rfl rfl rfl rfl (rd_cmp_f rfl rfl rfl (by simp only [cmpP]; omega)) ?_
          have hxm : ¬ x ∈ ownB := fun h => hf2 x h rfl
          refine ws_r rfl rfl rfl rfl (rd_move rfl) ?_
          refine ws_rskip rfl rfl rfl rfl ?_
          refine ws_rskip rfl rfl rfl rfl ?_
          refine ws_rskip rfl rfl rfl rfl ?_
          refine ws_rskip rfl rfl rfl rfl ?_
          refine ws_rskip rfl rfl rfl rfl ?_
          refine ws_rskip rfl rfl rfl rfl ?_
          refine ws_rskip rfl rfl rfl rfl ?_
          refine ws_rskip rfl rfl rfl rfl ?_
          refine ws_late rfl ?_
          refine ws_xskip rfl rfl rfl rfl ?_
          refine ws_l rfl rfl rfl rfl (rd_pick_f rfl rfl) ?_
          refine ws_l rfl rfl rfl rfl (rd_assign rfl) ?_
          refine ws_nil ?_
          refine qe_block ?_
          refine qe_then ?_
          refine wc_plain [(0, .x true), (1, .x true), (2, .x true)] (by kernel_rfl) ?_
          refine ws_l rfl rfl rfl rfl (rd_move rfl) ?_
          refine ws_l rfl rfl rfl rfl (rd_arith (((i + 1 : Nat) : Int)) rfl rfl rfl (by rw [wrap_i64 _ (by omega) (by omega)]; omega)) ?_
          refine ws_l rfl rfl rfl rfl (rd_assign rfl) ?_
          refine ws_nil ?_
          exact qe_loop fun ac2 w2 hs2 => ⟨_, by omega, i + 1, false, rfl, (by simp only [cmpP] at h48; omega), (by rw [take_at hx, List.all_append, ← Bool.and_assoc, ← heb]; simp [hxm]), st_sub hs2 _ rfl⟩
        ·
          rw [Nat.zero_add] at hfe
          have hkl := (List.getElem?_eq_some_iff.1 hy).1
          rw [hfe]
          refine ws_r rfl rfl rfl rfl (rd_cmp_t rfl rfl rfl (by simp only [cmpP]; omega)) ?_
          obtain ⟨bw, ow, cw, csw, Ew, frw, rfl, hmw, hcw⟩ := Src.opened hownB.src (by omega)
          have hmiw : HM bw (.cells csw Ew frw) ν3B := ⟨hmw⟩
          have aty : AtR csw (ow + kx * 82) y := at_r hcw hy
          refine ws_r rfl rfl rfl rfl (rd_move rfl) ?_
          refine ws_r rfl rfl rfl rfl (rd_move rfl) ?_
          refine ws_r rfl rfl rfl rfl (rd_move rfl) ?_
          refine ws_r rfl rfl rfl rfl (rd_index (ow + kx * 82) rfl rfl Try.underlying22 Try.sizeOf46 ⟨by omega, by omega⟩ (by simp)) ?_
          refine ws_r rfl rfl rfl rfl (rd_load rfl) ?_
          refine ws_r rfl rfl rfl rfl (rd_move rfl) ?_
          refine ws_r rfl rfl rfl rfl (rd_move rfl) ?_
          refine ws_r rfl rfl rfl rfl (rd_index (ov + i * 82) rfl rfl Try.underlying22 Try.sizeOf46 ⟨by omega, by omega⟩ (by simp)) ?_
          refine ws_r rfl rfl rfl rfl (rd_load rfl) ?_
          refine ws_late rfl ?_
          refine ws_lp _ rfl rfl rfl rfl (rd_eqrr rfl rfl (by kernel_rfl)) ?_ ?_
          · intro h72
            have hxm : x ∈ ownB := by rw [← h72]; exact List.mem_of_getElem? hy
            refine ws_l rfl rfl rfl rfl (rd_pick_t rfl rfl) ?_
            refine ws_l rfl rfl rfl rfl (rd_assign rfl) ?_
            refine ws_nil ?_
            refine qe_block ?_
            refine qe_then ?_
            refine wc_plain [(0, .x true), (1, .x true), (2, .x true)] (by kernel_rfl) ?_
            refine ws_l rfl rfl rfl rfl (rd_move rfl) ?_
            refine ws_l rfl rfl rfl rfl (rd_arith (((i + 1 : Nat) : Int)) rfl rfl rfl (by rw [wrap_i64 _ (by omega) (by omega)]; omega)) ?_
            refine ws_l rfl rfl rfl rfl (rd_assign rfl) ?_
            refine ws_nil ?_
            exact qe_loop fun ac2 w2 hs2 => ⟨_, by omega, i + 1, true, rfl, (by simp only [cmpP] at h48; omega), (by rw [take_at hx, List.all_append, ← Bool.and_assoc, ← heb]; simp [hxm]), st_sub hs2 _ rfl⟩
          · intro h72
            have hxm : ¬ x ∈ ownB := fun h => h72 (uniq hokB.nd (List.mem_of_getElem? hy) h hye)
            refine ws_l rfl rfl rfl rfl (rd_pick_t rfl rfl) ?_
            refine ws_l rfl rfl rfl rfl (rd_assign rfl) ?_
            refine ws_nil ?_
            refine qe_block ?_
            refine qe_then ?_
            refine wc_plain [(0, .x true), (1, .x true), (2, .x true)] (by kernel_rfl) ?_
            refine ws_l rfl rfl rfl rfl (rd_move rfl) ?_
            refine ws_l rfl rfl rfl rfl (rd_arith (((i + 1 : Nat) : Int)) rfl rfl rfl (by rw [wrap_i64 _ (by omega) (by omega)]; omega)) ?_
            refine ws_l rfl rfl rfl rfl (rd_assign rfl) ?_
            refine ws_nil ?_
            exact qe_loop fun ac2 w2 hs2 => ⟨_, by omega, i + 1, false, rfl, (by simp only [cmpP] at h48; omega), (by rw [take_at hx, List.all_append, ← Bool.and_assoc, ← heb]; simp [hxm]), st_sub hs2 _ rfl⟩
    · intro h48
      refine ws_l rfl rfl rfl rfl (rd_move rfl) ?_
      refine ws_xskip rfl rfl rfl rfl ?_
      refine ws_l rfl rfl rfl rfl (rd_pick_f rfl rfl) ?_
      refine ws_nil ?_
      refine qe_then ?_
      refine wc_false rfl ?_
      refine wc_exit ?_
      refine qe_then_exit ?_
      refine qe_then_exit ?_
      refine qe_block_exit ?_
      refine qe_then ?_
      refine wc_keep [(5, _), (7, _), (10, _), (13, _)] rfl ?_
      refine wc_seq ?_
      refine wc_seq ?_
      refine wc_plain [(0, .x true), (1, .x true), (2, .x true), (3, .x true), (4, .x true), (5, .x true), (6, .x true), (7, .x true), (8, .x true), (9, .x true), (10, .x true), (11, .x true)] (by kernel_rfl) ?_
      refine ws_l rfl rfl rfl rfl (rd_move rfl) ?_
      refine ws_l rfl rfl rfl rfl (rd_move rfl) ?_
      refine ws_callp rfl rfl rfl rfl rfl (En.go) (fun w hp hn ho => equal_ret p k pB kB m mB es esB c cB L LB hL hLB (νs ++ νsB) (fun q hq => (hok.grp q hq).mono (fun q hq => List.mem_append_left _ hq)) (fun id y h => ((hokB.look h).2.2).mono (fun q hq => List.mem_append_right _ hq)) w (hp.mono SubH.mem) (SubH.nd hn)) ?_
      refine ws_l rfl rfl rfl rfl (rd_move rfl) ?_
      have heqo : eqOB own ownB = eb := heq_done (.inl (by simp only [cmpP] at h48; omega)) heb
      refine ws_l rfl rfl rfl rfl (rd_bneq rfl rfl Try.underlying4 ((eqM_eqO hok hokB).trans heqo)) ?_
      refine ws_l rfl rfl rfl rfl (rd_move rfl) ?_
      refine ws_l rfl rfl rfl rfl (rd_move rfl) ?_
      refine ws_l rfl rfl rfl rfl (rd_move rfl) ?_
      refine ws_callp rfl rfl rfl rfl rfl (En.go) (fun w hp hn ho => equal_ret pB kB p k mB m esB es cB c LB L hLB hL (νsB ++ νs) (fun q hq => (hokB.grp q hq).mono (fun q hq => List.mem_append_left _ hq)) (fun id y h => ((hok.look h).2.2).mono (fun q hq => List.mem_append_right _ hq)) w (hp.mono SubH.mem) (SubH.nd hn)) ?_
      refine ws_l rfl rfl rfl rfl (rd_move rfl) ?_
      refine ws_l rfl rfl rfl rfl (rd_bneq rfl rfl Try.underlying4 ((eqM_eqO hokB hok).trans ((eqOB_comm hokB.nd hok.nd).trans heqo))) ?_
      refine ws_l rfl rfl rfl rfl (rd_pick_f rfl rfl) ?_
      refine ws_nil ?_
      refine qe_then ?_
      refine wc_keep [(5, _), (7, _), (85, _)] rfl ?_
      refine wc_false rfl ?_
      refine wc_skip ?_
      refine qe_then ?_
      refine wc_seq ?_
      refine wc_plain [(0, .x true), (1, .x true), (2, .x true)] (by kernel_rfl) ?_
      refine ws_l rfl rfl rfl rfl (rd_move rfl) ?_
      refine ws_call rfl rfl rfl rfl rfl (En.go) (fun w hp hn ho => clone_ret p m k es ws c d L W own νs hL hW hok (by omega) w (hp.mono SubH.mem) (SubH.nd hn)) (fun _ h => by cases h) (fun hh q h => by first | (cases h; done) | exact hh q h) ?_
      rintro v87 wa wb hpo hon hon2 hp1 ⟨p2, m2, k2, es2, c2, ws2, d2, L2, W2, ν2, rfl, hset2, hsnd2, hsfar2, hL2, hW2, hok2⟩
      refine ⟨_, hset2, hsnd2, fun b hb => .inl (hsfar2 b hb), ?_⟩
      simp only [List.cons_append]
      have hmb2 := Nat.le_trans hon.size (hsfar2 m2 (by simp))
      have hkb2 := Nat.le_trans hon.size (hsfar2 k2 (by simp))
      refine ws_l rfl rfl rfl rfl (rd_assign rfl) ?_
      refine ws_nil ?_
      refine qe_then ?_
      refine wc_seq ?_
      refine wc_seq ?_
      refine wc_plain [(0, .x true), (1, .x true), (2, .x true), (3, .x true), (4, .x true), (5, .x true), (6, .x true), (7, .x true)] (by kernel_rfl) ?_
      refine ws_l rfl rfl rfl rfl (rd_move rfl) ?_
      refine ws_l rfl rfl rfl rfl (rd_ptr_nil rfl rfl Try.underlying49 rfl) ?_
      refine ws_l rfl rfl rfl rfl (rd_move rfl) ?_
      refine ws_l rfl rfl rfl rfl (rd_move rfl) ?_
      refine ws_l rfl rfl rfl rfl (rd_move rfl) ?_
      refine ws_callp rfl rfl rfl rfl rfl (En.go) (fun w hp hn ho => by have h := equal_ret p2 k2 p k m2 m es2 es c2 c L2 L hL2 hL (ν2 ++ νs) (fun q hq => hok2.grp q hq) (fun id y h => ((hok.look h).2.2).mono (fun q hq => List.mem_append_right _ hq)) w (hp.mono SubH.mem) (SubH.nd hn); rwa [eqM_eqO hok2 hok, eqOB_refl] at h) ?_
      refine ws_l rfl rfl rfl rfl (rd_not rfl) ?_
      refine ws_l rfl rfl rfl rfl (rd_pick_f rfl rfl) ?_
      refine ws_nil ?_
      refine qe_then ?_
      refine wc_keep [(5, _), (7, _), (16, _), (95, _)] rfl ?_
      refine wc_false rfl ?_
      refine wc_skip ?_
      refine qe_then ?_
      refine wc_seq ?_
      refine wc_seq ?_
      refine wc_plain [(0, .x true), (1, .x true), (2, .x true), (3, .x true), (4, .x true), (5, .x true), (6, .x true), (7, .x true), (8, .x true), (9, .x true), (10, .x true), (11, .x true), (12, .x true), (13, .x true), (14, .x true)] (by kernel_rfl) ?_
      refine ws_l rfl rfl rfl rfl (rd_move rfl) ?_
      refine ws_l rfl rfl rfl rfl (rd_load rfl) ?_
      refine ws_call rfl rfl rfl rfl rfl (En.go) (fun w hp hn ho => drop_ret p2 m2 k2 es2 ws2 c2 d2 L2 W2 own (ν2 ++ νs) hL2 hW2 hok2 (by omega) id w (hp.mono SubH.mem) (SubH.nd hn)) (fun b hb => by simp only [List.mem_cons, List.not_mem_nil, or_false] at hb; rcases hb with rfl | rfl; exact .inl hmb2; exact .inl hkb2) (fun hh q h => by first | (cases h; done) | exact hh q h) ?_
      rintro v98 wa wb hpo hon hon2 hp1 ⟨rfl, es1, c1, ws1, d1, L1, W1, ν1, hp2, hnd2, hfar2, hL1, hW1, hok1⟩
      refine ⟨(m2, .map es1 c1) :: (k2, .map ws1 d1) :: ν1, hp2, hnd2, fun b hb => by simp only [List.map_cons, List.mem_cons] at hb; rcases hb with rfl | rfl | hb; exact .inr (by simp); exact .inr (by simp); exact .inl (hfar2 b hb), ?_⟩
      simp only [List.cons_append]
      by_cases hid : ∃ x ∈ own, x.id = id
      ·
        refine ws_l rfl rfl rfl rfl (rd_cmp_t rfl rfl rfl (by simp only [cmpP]; rw [dropE, if_pos hid])) ?_
        have hshort : (dropO own id).length ≠ own.length := by obtain ⟨x, hx, rfl⟩ := hid; have := dropO_short hx; omega
        refine ws_l rfl rfl rfl rfl (rd_move rfl) ?_
        refine ws_l rfl rfl rfl rfl (rd_move rfl) ?_
        refine ws_l rfl rfl rfl rfl (rd_move rfl) ?_
        refine ws_callp rfl rfl rfl rfl rfl (En.go) (fun w hp hn ho => by have h := equal_ret p2 k2 p k m2 m es1 es c1 c L1 L hL1 hL (ν1 ++ (ν2 ++ νs)) (fun q hq => hok1.grp q hq) (fun id y h => ((hok.look h).2.2).mono (fun q hq => List.mem_append_right _ (List.mem_append_right _ hq))) w (hp.mono SubH.mem) (SubH.nd hn); rwa [eqM_eqO hok1 hok, eqOB_len hshort] at h) ?_
        refine ws_l rfl rfl rfl rfl (rd_move rfl) ?_
        refine ws_l rfl rfl rfl rfl (rd_move rfl) ?_
        refine ws_l rfl rfl rfl rfl (rd_load rfl) ?_
        refine ws_callp rfl rfl rfl rfl rfl (En.go) (fun w hp hn ho => by have h := has_ret p m k es ws c d L W own νs hL hW hok (by omega) id w (hp.mono SubH.mem) (SubH.nd hn); rwa [decide_eq_true hid] at h) ?_
        refine ws_l rfl rfl rfl rfl (rd_not rfl) ?_
        refine ws_l rfl rfl rfl rfl (rd_pick_f rfl rfl) ?_
        refine ws_l rfl rfl rfl rfl (rd_pick_t rfl rfl) ?_
        refine ws_nil ?_
        refine qe_then ?_
        refine wc_keep [(5, _), (7, _), (110, _)] rfl ?_
        refine wc_false rfl ?_
        refine wc_skip ?_
        refine qe_then ?_
        refine wc_seq ?_
        refine wc_plain [(0, .x true)] (by kernel_rfl) ?_
        refine ws_l rfl rfl rfl rfl (rd_assign rfl) ?_
        refine ws_nil ?_
        refine qe_then ?_
        refine wc_seq ?_
        refine wc_plain [(0, .x true), (1, .x true), (2, .x true), (3, .x true), (4, .x true), (5, .x true), (6, .x true), (7, .x true), (8, .x true)] (by kernel_rfl) ?_
        refine ws_l rfl rfl rfl rfl (rd_move rfl) ?_
        refine ws_l rfl rfl rfl rfl (rd_load rfl) ?_
        refine ws_callp rfl rfl rfl rfl rfl (En.go) (fun w hp hn ho => end_nil id w) ?_
        refine ws_l rfl rfl rfl rfl (rd_move rfl) ?_
        refine ws_l rfl rfl rfl rfl (rd_extract rfl) ?_
        refine ws_l rfl rfl rfl rfl (rd_extract rfl) ?_
        refine ws_alloc rfl rfl rfl ?_
        intro b18 hb18
        refine ws_store rfl rfl rfl rfl (by first | exact .inl (by assumption) | exact .inr (by simp)) (fun _ h _ => by first | (cases h; done) | exact List.mem_cons_of_mem _ h | exact List.mem_cons_of_mem _ (List.mem_cons_of_mem _ h) | (simp at h ⊢; simp [h])) ?_
        refine ws_l rfl rfl rfl rfl (rd_assign rfl) ?_
        refine ws_nil ?_
        refine qe_then ?_
        refine wc_keep [(5, _), (7, _), (17, _), (19, _)] rfl ?_
        refine wc_seq ?_
        refine wc_plain [(0, .x true), (1, .x true), (2, .x true), (3, .x true), (4, .x true), (5, .x true), (6, .x true), (7, .x true), (8, .x true), (9, .x true), (10, .x true), (11, .x true), (12, .x true), (13, .x true), (14, .x true), (15, .x true), (16, .x true), (17, .x true), (18, .x true), (19, .x true), (20, .x true), (21, .x true), (22, .x true), (23, .x true), (24, .x true), (25, .x true), (26, .x true), (27, .x true), (28, .x true), (29, .x true), (30, .x true), (31, .x true), (32, .x true), (33, .x true), (34, .x true), (35, .x true), (36, .x true), (37, .x true), (38, .x true), (39, .x true), (40, .x true), (41, .x true), (42, .x true), (43, .x true), (44, .x true), (45, .x true), (46, .x true), (47, .x true), (48, .x true), (49, .x true), (50, .x true), (51, .x true), (52, .x true), (53, .x true), (54, .x true), (55, .x true), (56, .x true), (57, .x true), (58, .x true), (59, .x true)] (by kernel_rfl) ?_
        refine ws_l rfl rfl rfl rfl (rd_move rfl) ?_
        refine ws_l rfl rfl rfl rfl (rd_build rfl) ?_
        refine ws_callp rfl rfl rfl rfl rfl (En.go) (fun w hp hn ho => add_nil w) ?_
        refine ws_l rfl rfl rfl rfl (rd_cmp_t rfl rfl rfl (by simp [cmpP])) ?_
        refine ws_l rfl rfl rfl rfl (rd_move rfl) ?_
        refine ws_l rfl rfl rfl rfl (rd_move rfl) ?_
        refine ws_l rfl rfl rfl rfl (rd_load rfl) ?_
        refine ws_callp rfl rfl rfl rfl rfl (En.go) (fun w hp hn ho => drop_nil id w) ?_
        refine ws_l rfl rfl rfl rfl (rd_cmp_t rfl rfl rfl (by simp [cmpP])) ?_
        refine ws_l rfl rfl rfl rfl (rd_pick_t rfl rfl) ?_
        refine ws_l rfl rfl rfl rfl (rd_move rfl) ?_
        refine ws_l rfl rfl rfl rfl (rd_move rfl) ?_
        refine ws_l rfl rfl rfl rfl (rd_load rfl) ?_
        refine ws_callp rfl rfl rfl rfl rfl (En.go) (fun w hp hn ho => has_nil id w) ?_
        refine ws_l rfl rfl rfl rfl (rd_not rfl) ?_
        refine ws_l rfl rfl rfl rfl (rd_pick_t rfl rfl) ?_
        refine ws_l rfl rfl rfl rfl (rd_move rfl) ?_
        refine ws_l rfl rfl rfl rfl (rd_move rfl) ?_
        refine ws_l rfl rfl rfl rfl (rd_load rfl) ?_
        refine ws_callp rfl rfl rfl rfl rfl (En.go) (fun w hp hn ho => wd_nil id w) ?_
        refine ws_l rfl rfl rfl rfl (rd_not rfl) ?_
        refine ws_l rfl rfl rfl rfl (rd_pick_t rfl rfl) ?_
        refine ws_l rfl rfl rfl rfl (rd_move rfl) ?_
        refine ws_l rfl rfl rfl rfl (rd_move rfl) ?_
        refine ws_l rfl rfl rfl rfl (rd_not rfl) ?_
        refine ws_l rfl rfl rfl rfl (rd_pick_t rfl rfl) ?_
        refine ws_l rfl rfl rfl rfl (rd_move rfl) ?_
        refine ws_l rfl rfl rfl rfl (rd_move rfl) ?_
        refine ws_l rfl rfl rfl rfl (rd_load rfl) ?_
        refine ws_callp rfl rfl rfl rfl rfl (En.go) (fun w hp hn ho => path_nil id w) ?_
        refine ws_l rfl rfl rfl rfl (rd_len rfl Try.underlying26) ?_
        refine ws_l rfl rfl rfl rfl (rd_cmp_t rfl rfl rfl (by simp [cmpP])) ?_
        refine ws_l rfl rfl rfl rfl (rd_pick_t rfl rfl) ?_
        refine ws_l rfl rfl rfl rfl (rd_move rfl) ?_
        refine ws_l rfl rfl rfl rfl (rd_move rfl) ?_
        refine ws_l rfl rfl rfl rfl (rd_load rfl) ?_
        refine ws_callp rfl rfl rfl rfl rfl (En.go) (fun w hp hn ho => succ_nil id w) ?_
        refine ws_l rfl rfl rfl rfl (rd_len rfl Try.underlying26) ?_
        refine ws_l rfl rfl rfl rfl (rd_cmp_t rfl rfl rfl (by simp [cmpP])) ?_
        refine ws_l rfl rfl rfl rfl (rd_pick_t rfl rfl) ?_
        refine ws_l rfl rfl rfl rfl (rd_move rfl) ?_
        refine ws_l rfl rfl rfl rfl (rd_move rfl) ?_
        refine ws_callp rfl rfl rfl rfl rfl (En.go) (fun w hp hn ho => len_nil w) ?_
        refine ws_l rfl rfl rfl rfl (rd_cmp_t rfl rfl rfl (by simp [cmpP])) ?_
        refine ws_l rfl rfl rfl rfl (rd_pick_t rfl rfl) ?_
        refine ws_l rfl rfl rfl rfl (rd_move rfl) ?_
        refine ws_l rfl rfl rfl rfl (rd_move rfl) ?_
        refine ws_callp rfl rfl rfl rfl rfl (En.go) (fun w hp hn ho => clone_nil w) ?_
        refine ws_l rfl rfl rfl rfl (rd_nil_nil rfl rfl Try.underlying49 rfl) ?_
        refine ws_l rfl rfl rfl rfl (rd_pick_t rfl rfl) ?_
        refine ws_l rfl rfl rfl rfl (rd_move rfl) ?_
        refine ws_l rfl rfl rfl rfl (rd_move rfl) ?_
        refine ws_callp rfl rfl rfl rfl rfl (En.go) (fun w hp hn ho => equal_nils w) ?_
        refine ws_l rfl rfl rfl rfl (rd_pick_t rfl rfl) ?_
        refine ws_l rfl rfl rfl rfl (rd_move rfl) ?_
        refine ws_l rfl rfl rfl rfl (rd_move rfl) ?_
        refine ws_callp rfl rfl rfl rfl rfl (En.go) (fun w hp hn ho => equal_nil p w) ?_
        refine ws_l rfl rfl rfl rfl (rd_not rfl) ?_
        refine ws_l rfl rfl rfl rfl (rd_pick_t rfl rfl) ?_
        refine ws_l rfl rfl rfl rfl (rd_assign rfl) ?_
        refine ws_nil ?_
        refine qe_then ?_
        refine wc_keep [(6, _)] rfl ?_
        refine wc_ret ?_
        refine qe_body _ (.inl rfl) (res1 rfl (RV.tmp rfl)) ?_
        exact ret_end fun w hp hn ho => rfl
      ·
        refine ws_l rfl rfl rfl rfl (rd_cmp_f rfl rfl rfl (by simp only [cmpP]; rw [dropE, if_neg hid]; decide)) ?_
        refine ws_l rfl rfl rfl rfl (rd_move rfl) ?_
        refine ws_xskip rfl rfl rfl rfl ?_
        refine ws_xskip rfl rfl rfl rfl ?_
        refine ws_xskip rfl rfl rfl rfl ?_
        refine ws_xskip rfl rfl rfl rfl ?_
        refine ws_xskip rfl rfl rfl rfl ?_
        refine ws_xskip rfl rfl rfl rfl ?_
        refine ws_xskip rfl rfl rfl rfl ?_
        refine ws_xskip rfl rfl rfl rfl ?_
        refine ws_xskip rfl rfl rfl rfl ?_
        refine ws_l rfl rfl rfl rfl (rd_pick_f rfl rfl) ?_
        refine ws_nil ?_
        refine qe_then ?_
        refine wc_keep [(5, _), (7, _), (110, _)] rfl ?_
        refine wc_false rfl ?_
        refine wc_skip ?_
        refine qe_then ?_
        refine wc_seq ?_
        refine wc_plain [(0, .x true)] (by kernel_rfl) ?_
        refine ws_l rfl rfl rfl rfl (rd_assign rfl) ?_
        refine ws_nil ?_
        refine qe_then ?_
        refine wc_seq ?_
        refine wc_plain [(0, .x true), (1, .x true), (2, .x true), (3, .x true), (4, .x true), (5, .x true), (6, .x true), (7, .x true), (8, .x true)] (by kernel_rfl) ?_
        refine ws_l rfl rfl rfl rfl (rd_move rfl) ?_
        refine ws_l rfl rfl rfl rfl (rd_load rfl) ?_
        refine ws_callp rfl rfl rfl rfl rfl (En.go) (fun w hp hn ho => end_nil id w) ?_
        refine ws_l rfl rfl rfl rfl (rd_move rfl) ?_
        refine ws_l rfl rfl rfl rfl (rd_extract rfl) ?_
        refine ws_l rfl rfl rfl rfl (rd_extract rfl) ?_
        refine ws_alloc rfl rfl rfl ?_
        intro b18 hb18
        refine ws_store rfl rfl rfl rfl (by first | exact .inl (by assumption) | exact .inr (by simp)) (fun _ h _ => by first | (cases h; done) | exact List.mem_cons_of_mem _ h | exact List.mem_cons_of_mem _ (List.mem_cons_of_mem _ h) | (simp at h ⊢; simp [h])) ?_
        refine ws_l rfl rfl rfl rfl (rd_assign rfl) ?_
        refine ws_nil ?_
        refine qe_then ?_
        refine wc_keep [(5, _), (7, _), (17, _), (19, _)] rfl ?_
        refine wc_seq ?_
        refine wc_plain [(0, .x true), (1, .x true), (2, .x true), (3, .x true), (4, .x true), (5, .x true), (6, .x true), (7, .x true), (8, .x true), (9, .x true), (10, .x true), (11, .x true), (12, .x true), (13, .x true), (14, .x true), (15, .x true), (16, .x true), (17, .x true), (18, .x true), (19, .x true), (20, .x true), (21, .x true), (22, .x true), (23, .x true), (24, .x true), (25, .x true), (26, .x true), (27, .x true), (28, .x true), (29, .x true), (30, .x true), (31, .x true), (32, .x true), (33, .x true), (34, .x true), (35, .x true), (36, .x true), (37, .x true), (38, .x true), (39, .x true), (40, .x true), (41, .x true), (42, .x true), (43, .x true), (44, .x true), (45, .x true), (46, .x true), (47, .x true), (48, .x true), (49, .x true), (50, .x true), (51, .x true), (52, .x true), (53, .x true), (54, .x true), (55, .x true), (56, .x true), (57, .x true), (58, .x true), (59, .x true)] (by kernel_rfl) ?_
        refine ws_l rfl rfl rfl rfl (rd_move rfl) ?_
        refine ws_l rfl rfl rfl rfl (rd_build rfl) ?_
        refine ws_callp rfl rfl rfl rfl rfl (En.go) (fun w hp hn ho => add_nil w) ?_
        refine ws_l rfl rfl rfl rfl (rd_cmp_t rfl rfl rfl (by simp [cmpP])) ?_
        refine ws_l rfl rfl rfl rfl (rd_move rfl) ?_
        refine ws_l rfl rfl rfl rfl (rd_move rfl) ?_
        refine ws_l rfl rfl rfl rfl (rd_load rfl) ?_
        refine ws_callp rfl rfl rfl rfl rfl (En.go) (fun w hp hn ho => drop_nil id w) ?_
        refine ws_l rfl rfl rfl rfl (rd_cmp_t rfl rfl rfl (by simp [cmpP])) ?_
        refine ws_l rfl rfl rfl rfl (rd_pick_t rfl rfl) ?_
        refine ws_l rfl rfl rfl rfl (rd_move rfl) ?_
        refine ws_l rfl rfl rfl rfl (rd_move rfl) ?_
        refine ws_l rfl rfl rfl rfl (rd_load rfl) ?_
        refine ws_callp rfl rfl rfl rfl rfl (En.go) (fun w hp hn ho => has_nil id w) ?_
        refine ws_l rfl rfl rfl rfl (rd_not rfl) ?_
        refine ws_l rfl rfl rfl rfl (rd_pick_t rfl rfl) ?_
        refine ws_l rfl rfl rfl rfl (rd_move rfl) ?_
        refine ws_l rfl rfl rfl rfl (rd_move rfl) ?_
        refine ws_l rfl rfl rfl rfl (rd_load rfl) ?_
        refine ws_callp rfl rfl rfl rfl rfl (En.go) (fun w hp hn ho => wd_nil id w) ?_
        refine ws_l rfl rfl rfl rfl (rd_not rfl) ?_
        refine ws_l rfl rfl rfl rfl (rd_pick_t rfl rfl) ?_
        refine ws_l rfl rfl rfl rfl (rd_move rfl) ?_
        refine ws_l rfl rfl rfl rfl (rd_move rfl) ?_
        refine ws_l rfl rfl rfl rfl (rd_not rfl) ?_
        refine ws_l rfl rfl rfl rfl (rd_pick_t rfl rfl) ?_
        refine ws_l rfl rfl rfl rfl (rd_move rfl) ?_
        refine ws_l rfl rfl rfl rfl (rd_move rfl) ?_
        refine ws_l rfl rfl rfl rfl (rd_load rfl) ?_
        refine ws_callp rfl rfl rfl rfl rfl (En.go) (fun w hp hn ho => path_nil id w) ?_
        refine ws_l rfl rfl rfl rfl (rd_len rfl Try.underlying26) ?_
        refine ws_l rfl rfl rfl rfl (rd_cmp_t rfl rfl rfl (by simp [cmpP])) ?_
        refine ws_l rfl rfl rfl rfl (rd_pick_t rfl rfl) ?_
        refine ws_l rfl rfl rfl rfl (rd_move rfl) ?_
        refine ws_l rfl rfl rfl rfl (rd_move rfl) ?_
        refine ws_l rfl rfl rfl rfl (rd_load rfl) ?_
        refine ws_callp rfl rfl rfl rfl rfl (En.go) (fun w hp hn ho => succ_nil id w) ?_
        refine ws_l rfl rfl rfl rfl (rd_len rfl Try.underlying26) ?_
        refine ws_l rfl rfl rfl rfl (rd_cmp_t rfl rfl rfl (by simp [cmpP])) ?_
        refine ws_l rfl rfl rfl rfl (rd_pick_t rfl rfl) ?_
        refine ws_l rfl rfl rfl rfl (rd_move rfl) ?_
        refine ws_l rfl rfl rfl rfl (rd_move rfl) ?_
        refine ws_callp rfl rfl rfl rfl rfl (En.go) (fun w hp hn ho => len_nil w) ?_
        refine ws_l rfl rfl rfl rfl (rd_cmp_t rfl rfl rfl (by simp [cmpP])) ?_
        refine ws_l rfl rfl rfl rfl (rd_pick_t rfl rfl) ?_
        refine ws_l rfl rfl rfl rfl (rd_move rfl) ?_
        refine ws_l rfl rfl rfl rfl (rd_move rfl) ?_
        refine ws_callp rfl rfl rfl rfl rfl (En.go) (fun w hp hn ho => clone_nil w) ?_
        refine ws_l rfl rfl rfl rfl (rd_nil_nil rfl rfl Try.underlying49 rfl) ?_
        refine ws_l rfl rfl rfl rfl (rd_pick_t rfl rfl) ?_
        refine ws_l rfl rfl rfl rfl (rd_move rfl) ?_
        refine ws_l rfl rfl rfl rfl (rd_move rfl) ?_
        refine ws_callp rfl rfl rfl rfl rfl (En.go) (fun w hp hn ho => equal_nils w) ?_
        refine ws_l rfl rfl rfl rfl (rd_pick_t rfl rfl) ?_
        refine ws_l rfl rfl rfl rfl (rd_move rfl) ?_
        refine ws_l rfl rfl rfl rfl (rd_move rfl) ?_
        refine ws_callp rfl rfl rfl rfl rfl (En.go) (fun w hp hn ho => equal_nil p w) ?_
        refine ws_l rfl rfl rfl rfl (rd_not rfl) ?_
        refine ws_l rfl rfl rfl rfl (rd_pick_t rfl rfl) ?_
        refine ws_l rfl rfl rfl rfl (rd_assign rfl) ?_
        refine ws_nil ?_
        refine qe_then ?_
        refine wc_keep [(6, _)] rfl ?_
        refine wc_ret ?_
        refine qe_body _ (.inl rfl) (res1 rfl (RV.tmp rfl)) ?_
        exact ret_end fun w hp hn ho => rfl
  · intro h44
    have hl0 : ¬ own.length = ownB.length := by simp only [cmpP] at h44; omega
    refine ws_l rfl rfl rfl rfl (rd_assign rfl) ?_
    refine ws_nil ?_
    refine qe_then ?_
    refine wc_keep [(5, _), (6, _), (7, _), (8, _), (10, _), (11, _), (13, _)] rfl ?_
    refine wc_seq ?_
    refine wc_seq ?_
    refine wc_plain [(0, .x true)] (by kernel_rfl) ?_
    refine ws_l rfl rfl rfl rfl (rd_assign rfl) ?_
    refine ws_nil ?_
    refine qe_then ?_
    refine wc_block ?_
    refine wc_loop (fun mz ac w1 => ∃ (i : Nat) (eb : Bool), mz = own.length - i ∧ (i ≤ own.length) ∧ (eb = (decide (own.length = ownB.length) && (own.take i).all fun x => decide (x ∈ ownB))) ∧ St 176 w [] [(5, ptr b5), (7, ptr p), (8, v3), (10, ptr pB), (11, v3B), (13, .bool eb), (14, I i)] ((b5, .cells (idC id) 37 (0, 0)) :: setC p m k es c ws d (νs ++ (ν3 ++ (setC pB mB kB esB cB wsB dB (νsB ++ ν3B))))) ac w1) _ (fun ac w1 hs => ⟨0, false, rfl, (by omega), (by simp [hl0]), st_sub hs _ rfl⟩) ?_
    rintro _ ac2 wl2 ⟨i, eb, rfl, hi, heb, hs2⟩
    refine wc_at hs2 ?_
    refine wc_seq ?_
    refine wc_seq ?_
    refine wc_plain [(0, .x true), (1, .x true), (2, .x true), (3, .x true), (4, .x true), (5, .x true), (6, .x true)] (by kernel_rfl) ?_
    refine ws_l rfl rfl rfl rfl (rd_move rfl) ?_
    refine ws_l rfl rfl rfl rfl (rd_move rfl) ?_
    refine ws_l rfl rfl rfl rfl (rd_lenO hown rfl Try.underlying22) ?_
    refine ws_lcmp rfl rfl rfl (rfl) (rfl) (rfl) ?_ ?_
    · intro h48
      refine ws_l rfl rfl rfl rfl (rd_move rfl) ?_
      cases eb
      ·
        refine ws_l rfl rfl rfl rfl (rd_move rfl) ?_
        refine ws_l rfl rfl rfl rfl (rd_pick_t rfl rfl) ?_
        refine ws_nil ?_
        refine qe_then ?_
        refine wc_false rfl ?_
        refine wc_exit ?_
        refine qe_then_exit ?_
        refine qe_then_exit ?_
        refine qe_block_exit ?_
        refine qe_then ?_
        refine wc_keep [(5, _), (7, _), (10, _), (13, _)] rfl ?_
        refine wc_seq ?_
        refine wc_seq ?_
        refine wc_plain [(0, .x true), (1, .x true), (2, .x true), (3, .x true), (4, .x true), (5, .x true), (6, .x true), (7, .x true), (8, .x true), (9, .x true), (10, .x true), (11, .x true)] (by kernel_rfl) ?_
        refine ws_l rfl rfl rfl rfl (rd_move rfl) ?_
        refine ws_l rfl rfl rfl rfl (rd_move rfl) ?_
        refine ws_callp rfl rfl rfl rfl rfl (En.go) (fun w hp hn ho => equal_ret p k pB kB m mB es esB c cB L LB hL hLB (νs ++ νsB) (fun q hq => (hok.grp q hq).mono (fun q hq => List.mem_append_left _ hq)) (fun id y h => ((hokB.look h).2.2).mono (fun q hq => List.mem_append_right _ hq)) w (hp.mono SubH.mem) (SubH.nd hn)) ?_
        refine ws_l rfl rfl rfl rfl (rd_move rfl) ?_
        have heqo : eqOB own ownB = false := heq_done (.inr rfl) heb
        refine ws_l rfl rfl rfl rfl (rd_bneq rfl rfl Try.underlying4 ((eqM_eqO hok hokB).trans heqo)) ?_
        refine ws_l rfl rfl rfl rfl (rd_move rfl) ?_
        refine ws_l rfl rfl rfl rfl (rd_move rfl) ?_
        refine ws_l rfl rfl rfl rfl (rd_move rfl) ?_
        refine ws_callp rfl rfl rfl rfl rfl (En.go) (fun w hp hn ho => equal_ret pB kB p k mB m esB es cB c LB L hLB hL (νsB ++ νs) (fun q hq => (hokB.grp q hq).mono (fun q hq => List.mem_append_left _ hq)) (fun id y h => ((hok.look h).2.2).mono (fun q hq => List.mem_append_right _ hq)) w (hp.mono SubH.mem) (SubH.nd hn)) ?_
        refine ws_l rfl rfl rfl rfl (rd_move rfl) ?_
        refine ws_l rfl rfl rfl rfl (rd_bneq rfl rfl Try.underlying4 ((eqM_eqO hokB hok).trans ((eqOB_comm hokB.nd hok.nd).trans heqo))) ?_
        refine ws_l rfl rfl rfl rfl (rd_pick_f rfl rfl) ?_
        refine ws_nil ?_
        refine qe_then ?_
        refine wc_keep [(5, _), (7, _), (85, _)] rfl ?_
        refine wc_false rfl ?_
        refine wc_skip ?_
        refine qe_then ?_
        refine wc_seq ?_
        refine wc_plain [(0, .x true), (1, .x true), (2, .x true)] (by kernel_rfl) ?_
        refine ws_l rfl rfl rfl rfl (rd_move rfl) ?_
        refine ws_call rfl rfl rfl rfl rfl (En.go) (fun w hp hn ho => clone_ret p m k es ws c d L W own νs hL hW hok (by omega) w (hp.mono SubH.mem) (SubH.nd hn)) (fun _ h => by cases h) (fun hh q h => by first | (cases h; done) | exact hh q h) ?_
        rintro v87 wa wb hpo hon hon2 hp1 ⟨p2, m2, k2, es2, c2, ws2, d2, L2, W2, ν2, rfl, hset2, hsnd2, hsfar2, hL2, hW2, hok2⟩
        refine ⟨_, hset2, hsnd2, fun b hb => .inl (hsfar2 b hb), ?_⟩
        simp only [List.cons_append]
        have hmb2 := Nat.le_trans hon.size (hsfar2 m2 (by simp))
        have hkb2 := Nat.le_trans hon.size (hsfar2 k2 (by simp))
        refine ws_l rfl rfl rfl rfl (rd_assign rfl) ?_
        refine ws_nil ?_
        refine qe_then ?_
        refine wc_seq ?_
        refine wc_seq ?_
        refine wc_plain [(0, .x true), (1, .x true), (2, .x true), (3, .x true), (4, .x true), (5, .x true), (6, .x true), (7, .x true)] (by kernel_rfl) ?_
        refine ws_l rfl rfl rfl rfl (rd_move rfl) ?_
        refine ws_l rfl rfl rfl rfl (rd_ptr_nil rfl rfl Try.underlying49 rfl) ?_
        refine ws_l rfl rfl rfl rfl (rd_move rfl) ?_
        refine ws_l rfl rfl rfl rfl (rd_move rfl) ?_
        refine ws_l rfl rfl rfl rfl (rd_move rfl) ?_
        refine ws_callp rfl rfl rfl rfl rfl (En.go) (fun w hp hn ho => by have h := equal_ret p2 k2 p k m2 m es2 es c2 c L2 L hL2 hL (ν2 ++ νs) (fun q hq => hok2.grp q hq) (fun id y h => ((hok.look h).2.2).mono (fun q hq => List.mem_append_right _ hq)) w (hp.mono SubH.mem) (SubH.nd hn); rwa [eqM_eqO hok2 hok, eqOB_refl] at h) ?_
        refine ws_l rfl rfl rfl rfl (rd_not rfl) ?_
        refine ws_l rfl rfl rfl rfl (rd_pick_f rfl rfl) ?_
        refine ws_nil ?_
        refine qe_then ?_
        refine wc_keep [(5, _), (7, _), (16, _), (95, _)] rfl ?_
        refine wc_false rfl ?_
        refine wc_skip ?_
        refine qe_then ?_
        refine wc_seq ?_
        refine wc_seq ?_
        refine wc_plain [(0, .x true), (1, .x true), (2, .x true), (3, .x true), (4, .x true), (5, .x true), (6, .x true), (7, .x true), (8, .x true), (9, .x true), (10, .x true), (11, .x true), (12, .x true), (13, .x true), (14, .x true)] (by kernel_rfl) ?_
        refine ws_l rfl rfl rfl rfl (rd_move rfl) ?_
        refine ws_l rfl rfl rfl rfl (rd_load rfl) ?_
        refine ws_call rfl rfl rfl rfl rfl (En.go) (fun w hp hn ho => drop_ret p2 m2 k2 es2 ws2 c2 d2 L2 W2 own (ν2 ++ νs) hL2 hW2 hok2 (by omega) id w (hp.mono SubH.mem) (SubH.nd hn)) (fun b hb => by simp only [List.mem_cons, List.not_mem_nil, or_false] at hb; rcases hb with rfl | rfl; exact .inl hmb2; exact .inl hkb2) (fun hh q h => by first | (cases h; done) | exact hh q h) ?_
        rintro v98 wa wb hpo hon hon2 hp1 ⟨rfl, es1, c1, ws1, d1, L1, W1, ν1, hp2, hnd2, hfar2, hL1, hW1, hok1⟩
        refine ⟨(m2, .map es1 c1) :: (k2, .map ws1 d1) :: ν1, hp2, hnd2, fun b hb => by simp only [List.map_cons, List.mem_cons] at hb; rcases hb with rfl | rfl | hb; exact .inr (by simp); exact .inr (by simp); exact .inl (hfar2 b hb), ?_⟩
        simp only [List.cons_append]
        by_cases hid : ∃ x ∈ own, x.id = id
        ·
          refine ws_l rfl rfl rfl rfl (rd_cmp_t rfl rfl rfl (by simp only [cmpP]; rw [dropE, if_pos hid])) ?_
          have hshort : (dropO own id).length ≠ own.length := by obtain ⟨x, hx, rfl⟩ := hid; have := dropO_short hx; omega
          refine ws_l rfl rfl rfl rfl (rd_move rfl) ?_
          refine ws_l rfl rfl rfl rfl (rd_move rfl) ?_
          refine ws_l rfl rfl rfl rfl (rd_move rfl) ?_
          refine ws_callp rfl rfl rfl rfl rfl (En.go) (fun w hp hn ho => by have h := equal_ret p2 k2 p k m2 m es1 es c1 c L1 L hL1 hL (ν1 ++ (ν2 ++ νs)) (fun q hq => hok1.grp q hq) (fun id y h => ((hok.look h).2.2).mono (fun q hq => List.mem_append_right _ (List.mem_append_right _ hq))) w (hp.mono SubH.mem) (SubH.nd hn); rwa [eqM_eqO hok1 hok, eqOB_len hshort] at h) ?_
          refine ws_l rfl rfl rfl rfl (rd_move rfl) ?_
          refine ws_l rfl rfl rfl rfl (rd_move rfl) ?_
          refine ws_l rfl rfl rfl rfl (rd_load rfl) ?_
          refine ws_callp rfl rfl rfl rfl rfl (En.go) (fun w hp hn ho => by have h := has_ret p m k es ws c d L W own νs hL hW hok (by omega) id w (hp.mono SubH.mem) (SubH.nd hn); rwa [decide_eq_true hid] at h) ?_
          refine ws_l rfl rfl rfl rfl (rd_not rfl) ?_
          refine ws_l rfl rfl rfl rfl (rd_pick_f rfl rfl) ?_
          refine ws_l rfl rfl rfl rfl (rd_pick_t rfl rfl) ?_
          refine ws_nil ?_
          refine qe_then ?_
          refine wc_keep [(5, _), (7, _), (110, _)] rfl ?_
          refine wc_false rfl ?_
          refine wc_skip ?_
          refine qe_then ?_
          refine wc_seq ?_
          refine wc_plain [(0, .x true)] (by kernel_rfl) ?_
          refine ws_l rfl rfl rfl rfl (rd_assign rfl) ?_
          refine ws_nil ?_
          refine qe_then ?_
          refine wc_seq ?_
          refine wc_plain [(0, .x true), (1, .x true), (2, .x true), (3, .x true), (4, .x true), (5, .x true), (6, .x true), (7, .x true), (8, .x true)] (by kernel_rfl) ?_
          refine ws_l rfl rfl rfl rfl (rd_move rfl) ?_
          refine ws_l rfl rfl rfl rfl (rd_load rfl) ?_
          refine ws_callp rfl rfl rfl rfl rfl (En.go) (fun w hp hn ho => end_nil id w) ?_
          refine ws_l rfl rfl rfl rfl (rd_move rfl) ?_
          refine ws_l rfl rfl rfl rfl (rd_extract rfl) ?_
          refine ws_l rfl rfl rfl rfl (rd_extract rfl) ?_
          refine ws_alloc rfl rfl rfl ?_
          intro b18 hb18
          refine ws_store rfl rfl rfl rfl (by first | exact .inl (by assumption) | exact .inr (by simp)) (fun _ h _ => by first | (cases h; done) | exact List.mem_cons_of_mem _ h | exact List.mem_cons_of_mem _ (List.mem_cons_of_mem _ h) | (simp at h ⊢; simp [h])) ?_
          refine ws_l rfl rfl rfl rfl (rd_assign rfl) ?_
          refine ws_nil ?_
          refine qe_then ?_
          refine wc_keep [(5, _), (7, _), (17, _), (19, _)] rfl ?_
          refine wc_seq ?_
          refine wc_plain [(0, .x true), (1, .x true), (2, .x true), (3, .x true), (4, .x true), (5, .x true), (6, .x true), (7, .x true), (8, .x true), (9, .x true), (10, .x true), (11, .x true), (12, .x true), (13, .x true), (14, .x true), (15, .x true), (16, .x true), (17, .x true), (18, .x true), (19, .x true), (20, .x true), (21, .x true), (22, .x true), (23, .x true), (24, .x true), (25, .x true), (26, .x true), (27, .x true), (28, .x true), (29, .x true), (30, .x true), (31, .x true), (32, .x true), (33, .x true), (34, .x true), (35, .x true), (36, .x true), (37, .x true), (38, .x true), (39, .x true), (40, .x true), (41, .x true), (42, .x true), (43, .x true), (44, .x true), (45, .x true), (46, .x true), (47, .x true), (48, .x true), (49, .x true), (50, .x true), (51, .x true), (52, .x true), (53, .x true), (54, .x true), (55, .x true), (56, .x true), (57, .x true), (58, .x true), (59, .x true)] (by kernel_rfl) ?_
          refine ws_l rfl rfl rfl rfl (rd_move rfl) ?_
          refine ws_l rfl rfl rfl rfl (rd_build rfl) ?_
          refine ws_callp rfl rfl rfl rfl rfl (En.go) (fun w hp hn ho => add_nil w) ?_
          refine ws_l rfl rfl rfl rfl (rd_cmp_t rfl rfl rfl (by simp [cmpP])) ?_
          refine ws_l rfl rfl rfl rfl (rd_move rfl) ?_
          refine ws_l rfl rfl rfl rfl (rd_move rfl) ?_
          refine ws_l rfl rfl rfl rfl (rd_load rfl) ?_
          refine ws_callp rfl rfl rfl rfl rfl (En.go) (fun w hp hn ho => drop_nil id w) ?_
          refine ws_l rfl rfl rfl rfl (rd_cmp_t rfl rfl rfl (by simp [cmpP])) ?_
          refine ws_l rfl rfl rfl rfl (rd_pick_t rfl rfl) ?_
          refine ws_l rfl rfl rfl rfl (rd_move rfl) ?_
          refine ws_l rfl rfl rfl rfl (rd_move rfl) ?_
          refine ws_l rfl rfl rfl rfl (rd_load rfl) ?_
          refine ws_callp rfl rfl rfl rfl rfl (En.go) (fun w hp hn ho => has_nil id w) ?_
          refine ws_l rfl rfl rfl rfl (rd_not rfl) ?_
          refine ws_l rfl rfl rfl rfl (rd_pick_t rfl rfl) ?_
          refine ws_l rfl rfl rfl rfl (rd_move rfl) ?_
          refine ws_l rfl rfl rfl rfl (rd_move rfl) ?_
          refine ws_l rfl rfl rfl rfl (rd_load rfl) ?_
          refine ws_callp rfl rfl rfl rfl rfl (En.go) (fun w hp hn ho => wd_nil id w) ?_
          refine ws_l rfl rfl rfl rfl (rd_not rfl) ?_
          refine ws_l rfl rfl rfl rfl (rd_pick_t rfl rfl) ?_
          refine ws_l rfl rfl rfl rfl (rd_move rfl) ?_
          refine ws_l rfl rfl rfl rfl (rd_move rfl) ?_
          refine ws_l rfl rfl rfl rfl (rd_not rfl) ?_
          refine ws_l rfl rfl rfl rfl (rd_pick_t rfl rfl) ?_
          refine ws_l rfl rfl rfl rfl (rd_move rfl) ?_
          refine ws_l rfl rfl rfl rfl (rd_move rfl) ?_
          refine ws_l rfl rfl rfl rfl (rd_load rfl) ?_
          refine ws_callp rfl rfl rfl rfl rfl (En.go) (fun w hp hn ho => path_nil id w) ?_
          refine ws_l rfl rfl rfl rfl (rd_len rfl Try.underlying26) ?_
          refine ws_l rfl rfl rfl rfl (rd_cmp_t rfl rfl rfl (by simp [cmpP])) ?_
          refine ws_l rfl rfl rfl rfl (rd_pick_t rfl rfl) ?_
          refine ws_l rfl rfl rfl rfl (rd_move rfl) ?_
          refine ws_l rfl rfl rfl rfl (rd_move rfl) ?_
          refine ws_l rfl rfl rfl rfl (rd_load rfl) ?_
          refine ws_callp rfl rfl rfl rfl rfl (En.go) (fun w hp hn ho => succ_nil id w) ?_
          refine ws_l rfl rfl rfl rfl (rd_len rfl Try.underlying26) ?_
          refine ws_l rfl rfl rfl rfl (rd_cmp_t rfl rfl rfl (by simp [cmpP])) ?_
          refine ws_l rfl rfl rfl rfl (rd_pick_t rfl rfl) ?_
          refine ws_l rfl rfl rfl rfl (rd_move rfl) ?_
          refine ws_l rfl rfl rfl rfl (rd_move rfl) ?_
          refine ws_callp rfl rfl rfl rfl rfl (En.go) (fun w hp hn ho => len_nil w) ?_
          refine ws_l rfl rfl rfl rfl (rd_cmp_t rfl rfl rfl (by simp [cmpP])) ?_
          refine ws_l rfl rfl rfl rfl (rd_pick_t rfl rfl) ?_
          refine ws_l rfl rfl rfl rfl (rd_move rfl) ?_
          refine ws_l rfl rfl rfl rfl (rd_move rfl) ?_
          refine ws_callp rfl rfl rfl rfl rfl (En.go) (fun w hp hn ho => clone_nil w) ?_
          refine ws_l rfl rfl rfl rfl (rd_nil_nil rfl rfl Try.underlying49 rfl) ?_
          refine ws_l rfl rfl rfl rfl (rd_pick_t rfl rfl) ?_
          refine ws_l rfl rfl rfl rfl (rd_move rfl) ?_
          refine ws_l rfl rfl rfl rfl (rd_move rfl) ?_
          refine ws_callp rfl rfl rfl rfl rfl (En.go) (fun w hp hn ho => equal_nils w) ?_
          refine ws_l rfl rfl rfl rfl (rd_pick_t rfl rfl) ?_
          refine ws_l rfl rfl rfl rfl (rd_move rfl) ?_
          refine ws_l rfl rfl rfl rfl (rd_move rfl) ?_
          refine ws_callp rfl rfl rfl rfl rfl (En.go) (fun w hp hn ho => equal_nil p w) ?_
          refine ws_l rfl rfl rfl rfl (rd_not rfl) ?_
          refine ws_l rfl rfl rfl rfl (rd_pick_t rfl rfl) ?_
          refine ws_l rfl rfl rfl rfl (rd_assign rfl) ?_
          refine ws_nil ?_
          refine qe_then ?_
          refine wc_keep [(6, _)] rfl ?_
          refine wc_ret ?_
          refine qe_body _ (.inl rfl) (res1 rfl (RV.tmp rfl)) ?_
          exact ret_end fun w hp hn ho => rfl
        ·
          refine ws_l rfl rfl rfl rfl (rd_cmp_f rfl rfl rfl (by simp only [cmpP]; rw [dropE, if_neg hid]; decide)) ?_
          refine ws_l rfl rfl rfl rfl (rd_move rfl) ?_
          refine ws_xskip rfl rfl rfl rfl ?_
          refine ws_xskip rfl rfl rfl rfl ?_
          refine ws_xskip rfl rfl rfl rfl ?_
          refine ws_xskip rfl rfl rfl rfl ?_
          refine ws_xskip rfl rfl rfl rfl ?_
          refine ws_xskip rfl rfl rfl rfl ?_
          refine ws_xskip rfl rfl rfl rfl ?_
          refine ws_xskip rfl rfl rfl rfl ?_
          refine ws_xskip rfl rfl rfl rfl ?_
          refine ws_l rfl rfl rfl rfl (rd_pick_f rfl rfl) ?_
          refine ws_nil ?_
          refine qe_then ?_
          refine wc_keep [(5, _), (7, _), (110, _)] rfl ?_
          refine wc_false rfl ?_
          refine wc_skip ?_
          refine qe_then ?_
          refine wc_seq ?_
          refine wc_plain [(0, .x true)] (by kernel_rfl) ?_
          refine ws_l rfl rfl rfl rfl (rd_assign rfl) ?_
          refine ws_nil ?_
          refine qe_then ?_
          refine wc_seq ?_
          refine wc_plain [(0, .x true), (1, .x true), (2, .x true), (3, .x true), (4, .x true), (5, .x true), (6, .x true), (7, .x true), (8, .x true)] (by kernel_rfl) ?_
          refine ws_l rfl rfl rfl rfl (rd_move rfl) ?_
          refine ws_l rfl rfl rfl rfl (rd_load rfl) ?_
          refine ws_callp rfl rfl rfl rfl rfl (En.go) (fun w hp hn ho => end_nil id w) ?_
          refine ws_l rfl rfl rfl rfl (rd_move rfl) ?_
          refine ws_l rfl rfl rfl rfl (rd_extract rfl) ?_
          refine ws_l rfl rfl rfl rfl (rd_extract rfl) ?_
          refine ws_alloc rfl rfl rfl ?_
          intro b18 hb18
          refine ws_store rfl rfl rfl rfl (by first | exact .inl (by assumption) | exact .inr (by simp)) (fun _ h _ => by first | (cases h; done) | exact List.mem_cons_of_mem _ h | exact List.mem_cons_of_mem _ (List.mem_cons_of_mem _ h) | (simp at h ⊢; simp [h])) ?_
          refine ws_l rfl rfl rfl rfl (rd_assign rfl) ?_
          refine ws_nil ?_
          refine qe_then ?_
          refine wc_keep [(5, _), (7, _), (17, _), (19, _)] rfl ?_
          refine wc_seq ?_
          refine wc_plain [(0, .x true), (1, .x true), (2, .x true), (3, .x true), (4, .x true), (5, .x true), (6, .x true), (7, .x true), (8, .x true), (9, .x true), (10, .x true), (11, .x true), (12, .x true), (13, .x true), (14, .x true), (15, .x true), (16, .x true), (17, .x true), (18, .x true), (19, .x true), (20, .x true), (21, .x true), (22, .x true), (23, .x true), (24, .x true), (25, .x true), (26, .x true), (27, .x true), (28, .x true), (29, .x true), (30, .x true), (31, .x true), (32, .x true), (33, .x true), (34, .x true), (35, .x true), (36, .x true), (37, .x true), (38, .x true), (39, .x true), (40, .x true), (41, .x true), (42, .x true), (43, .x true), (44, .x true), (45, .x true), (46, .x true), (47, .x true), (48, .x true), (49, .x true), (50, .x true), (51, .x true), (52, .x true), (53, .x true), (54, .x true), (55, .x true), (56, .x true), (57, .x true), (58, .x true), (59, .x true)] (by kernel_rfl) ?_
          refine ws_l rfl rfl rfl rfl (rd_move rfl) ?_
          refine ws_l rfl rfl rfl rfl (rd_build rfl) ?_
          refine ws_callp rfl rfl rfl rfl rfl (En.go) (fun w hp hn ho => add_nil w) ?_
          refine ws_l rfl rfl rfl rfl (rd_cmp_t rfl rfl rfl (by simp [cmpP])) ?_
          refine ws_l rfl rfl rfl rfl (rd_move rfl) ?_
          refine ws_l rfl rfl rfl rfl (rd_move rfl) ?_
          refine ws_l rfl rfl rfl rfl (rd_load rfl) ?_
          refine ws_callp rfl rfl rfl rfl rfl (En.go) (fun w hp hn ho => drop_nil id w) ?_
          refine ws_l rfl rfl rfl rfl (rd_cmp_t rfl rfl rfl (by simp [cmpP])) ?_
          refine ws_l rfl rfl rfl rfl (rd_pick_t rfl rfl) ?_
          refine ws_l rfl rfl rfl rfl (rd_move rfl) ?_
          refine ws_l rfl rfl rfl rfl (rd_move rfl) ?_
          refine ws_l rfl rfl rfl rfl (rd_load rfl) ?_
          refine ws_callp rfl rfl rfl rfl rfl (En.go) (fun w hp hn ho => has_nil id w) ?_
          refine ws_l rfl rfl rfl rfl (rd_not rfl) ?_
          refine ws_l rfl rfl rfl rfl (rd_pick_t rfl rfl) ?_
          refine ws_l rfl rfl rfl rfl (rd_move rfl) ?_
          refine ws_l rfl rfl rfl rfl (rd_move rfl) ?_
          refine ws_l rfl rfl rfl rfl (rd_load rfl) ?_
          refine ws_callp rfl rfl rfl rfl rfl (En.go) (fun w hp hn ho => wd_nil id w) ?_
          refine ws_l rfl rfl rfl rfl (rd_not rfl) ?_
          refine ws_l rfl rfl rfl rfl (rd_pick_t rfl rfl) ?_
          refine ws_l rfl rfl rfl rfl (rd_move rfl) ?_
          refine ws_l rfl rfl rfl rfl (rd_move rfl) ?_
          refine ws_l rfl rfl rfl rfl (rd_not rfl) ?_
          refine ws_l rfl rfl rfl rfl (rd_pick_t rfl rfl) ?_
          refine ws_l rfl rfl rfl rfl (rd_move rfl) ?_
          refine ws_l rfl rfl rfl rfl (rd_move rfl) ?_
          refine ws_l rfl rfl rfl rfl (rd_load rfl) ?_
          refine ws_callp rfl rfl rfl rfl rfl (En.go) (fun w hp hn ho => path_nil id w) ?_
          refine ws_l rfl rfl rfl rfl (rd_len rfl Try.underlying26) ?_
          refine ws_l rfl rfl rfl rfl (rd_cmp_t rfl rfl rfl (by simp [cmpP])) ?_
          refine ws_l rfl rfl rfl rfl (rd_pick_t rfl rfl) ?_
          refine ws_l rfl rfl rfl rfl (rd_move rfl) ?_
          refine ws_l rfl rfl rfl rfl (rd_move rfl) ?_
          refine ws_l rfl rfl rfl rfl (rd_load rfl) ?_
          refine ws_callp rfl rfl rfl rfl rfl (En.go) (fun w hp hn ho => succ_nil id w) ?_
          refine ws_l rfl rfl rfl rfl (rd_len rfl Try.underlying26) ?_
          refine ws_l rfl rfl rfl rfl (rd_cmp_t rfl rfl rfl (by simp [cmpP])) ?_
          refine ws_l rfl rfl rfl rfl (rd_pick_t rfl rfl) ?_
          refine ws_l rfl rfl rfl rfl (rd_move rfl) ?_
          refine ws_l rfl rfl rfl rfl (rd_move rfl) ?_
          refine ws_callp rfl rfl rfl rfl rfl (En.go) (fun w hp hn ho => len_nil w) ?_
          refine ws_l rfl rfl rfl rfl (rd_cmp_t rfl rfl rfl (by simp [cmpP])) ?_
          refine ws_l rfl rfl rfl rfl (rd_pick_t rfl rfl) ?_
          refine ws_l rfl rfl rfl rfl (rd_move rfl) ?_
          refine ws_l rfl rfl rfl rfl (rd_move rfl) ?_
          refine ws_callp rfl rfl rfl rfl rfl (En.go) (fun w hp hn ho => clone_nil w) ?_
          refine ws_l rfl rfl rfl rfl (rd_nil_nil rfl rfl Try.underlying49 rfl) ?_
          refine ws_l rfl rfl rfl rfl (rd_pick_t rfl rfl) ?_
          refine ws_l rfl rfl rfl rfl (rd_move rfl) ?_
          refine ws_l rfl rfl rfl rfl (rd_move rfl) ?_
          refine ws_callp rfl rfl rfl rfl rfl (En.go) (fun w hp hn ho => equal_nils w) ?_
          refine ws_l rfl rfl rfl rfl (rd_pick_t rfl rfl) ?_
          refine ws_l rfl rfl rfl rfl (rd_move rfl) ?_
          refine ws_l rfl rfl rfl rfl (rd_move rfl) ?_
          refine ws_callp rfl rfl rfl rfl rfl (En.go) (fun w hp hn ho => equal_nil p w) ?_
          refine ws_l rfl rfl rfl rfl (rd_not rfl) ?_
          refine ws_l rfl rfl rfl rfl (rd_pick_t rfl rfl) ?_
          refine ws_l rfl rfl rfl rfl (rd_assign rfl) ?_
          refine ws_nil ?_
          refine qe_then ?_
          refine wc_keep [(6, _)] rfl ?_
          refine wc_ret ?_
          refine qe_body _ (.inl rfl) (res1 rfl (RV.tmp rfl)) ?_
          exact ret_end fun w hp hn ho => rfl
      ·
        refine ws_l rfl rfl rfl rfl (rd_move rfl) ?_
        refine ws_l rfl rfl rfl rfl (rd_pick_t rfl rfl) ?_
        refine ws_nil ?_
        refine qe_then ?_
        refine wc_true rfl ?_
        refine wc_skip ?_
        refine qe_then ?_
        refine wc_seq ?_
        refine wc_block ?_
        refine wc_seq ?_
        refine wc_plain [(0, .x true), (1, .x true), (2, .x true), (3, .x true), (4, .x true), (5, .x true), (6, .x true), (7, .x true)] (by kernel_rfl) ?_
        refine ws_l rfl rfl rfl rfl (rd_move rfl) ?_
        refine ws_l rfl rfl rfl rfl (rd_move rfl) ?_
        refine ws_l rfl rfl rfl rfl (rd_move rfl) ?_
        obtain ⟨bv, ov, cv, csv, Ev, frv, rfl, hmv, hcv⟩ := Src.opened hown.src (by omega)
        have hmiv : HM bv (.cells csv Ev frv) ν3 := ⟨hmv⟩
        obtain ⟨x, hx⟩ := at_ex (l := own) (j := i) (by simp only [cmpP] at h48; omega)
        have atx : AtR csv (ov + i * 82) x := at_r hcv hx
        refine ws_l rfl rfl rfl rfl (rd_index (ov + i * 82) rfl rfl Try.underlying22 Try.sizeOf46 ⟨by omega, by omega⟩ (by simp)) ?_
        refine ws_l rfl rfl rfl rfl (rd_fieldAddr rfl) ?_
        refine ws_l rfl rfl rfl rfl (rd_load rfl) ?_
        refine ws_callp rfl rfl rfl rfl rfl (En.go) (fun w hp hn ho => find_ref _ ν3B ownB hownB.src (by omega) x.id w (hp.mono SubH.mem) (SubH.nd hn)) ?_
        refine ws_l rfl rfl rfl rfl (rd_assign rfl) ?_
        refine ws_nil ?_
        refine qe_then ?_
        refine wc_drawn mixedT _ (fun _ h => h) [(0, .r), (1, .r), (2, .r), (3, .r), (4, .r), (5, .r), (6, .r), (7, .r), (8, .r), (9, .r), (10, .r), (11, .x true), (12, .x true), (13, .x true)] (by kernel_rfl) ?_
        refine ws_r rfl rfl rfl rfl (rd_move rfl) ?_
        rcases findR_first x.id ownB 0 with ⟨hf1, hf2⟩ | ⟨kx, y, hy, hye, hfe, hf4⟩
        ·
          refine ws_r rfl rfl rfl rfl (rd_cmp_f rfl rfl rfl (by simp only [cmpP]; omega)) ?_
          have hxm : ¬ x ∈ ownB := fun h => hf2 x h rfl
          refine ws_r rfl rfl rfl rfl (rd_move rfl) ?_
          refine ws_rskip rfl rfl rfl rfl ?_
          refine ws_rskip rfl rfl rfl rfl ?_
          refine ws_rskip rfl rfl rfl rfl ?_
          refine ws_rskip rfl rfl rfl rfl ?_
          refine ws_rskip rfl rfl rfl rfl ?_
          refine ws_rskip rfl rfl rfl rfl ?_
          refine ws_rskip rfl rfl rfl rfl ?_
          refine ws_rskip rfl rfl rfl rfl ?_
          refine ws_late rfl ?_
          refine ws_xskip rfl rfl rfl rfl ?_
          refine ws_l rfl rfl rfl rfl (rd_pick_f rfl rfl) ?_
          refine ws_l rfl rfl rfl rfl (rd_assign rfl) ?_
          refine ws_nil ?_
          refine qe_block ?_
          refine qe_then ?_
          refine wc_plain [(0, .x true), (1, .x true), (2, .x true)] (by kernel_rfl) ?_
          refine ws_l rfl rfl rfl rfl (rd_move rfl) ?_
          refine ws_l rfl rfl rfl rfl (rd_arith (((i + 1 : Nat) : Int)) rfl rfl rfl (by rw [wrap_i64 _ (by omega) (by omega)]; omega)) ?_
          refine ws_l rfl rfl rfl rfl (rd_assign rfl) ?_
          refine ws_nil ?_
          exact qe_loop fun ac2 w2 hs2 => ⟨_, by omega, i + 1, false, rfl, (by simp only [cmpP] at h48; omega), (by rw [take_at hx, List.all_append, ← Bool.and_assoc, ← heb]; simp [hxm]), st_sub hs2 _ rfl⟩
        ·
          rw [Nat.zero_add] at hfe
          have hkl := (List.getElem?_eq_some_iff.1 hy).1
          rw [hfe]
          refine ws_r rfl rfl rfl rfl (rd_cmp_t rfl rfl rfl (by simp only [cmpP]; omega)) ?_
          obtain ⟨bw, ow, cw, csw, Ew, frw, rfl, hmw, hcw⟩ := Src.opened hownB.src (by omega)
          have hmiw : HM bw (.cells csw Ew frw) ν3B := ⟨hmw⟩
          have aty : AtR csw (ow + kx * 82) y := at_r hcw hy
          refine ws_r rfl rfl rfl rfl (rd_move rfl) ?_
          refine ws_r rfl rfl rfl rfl (rd_move rfl) ?_
          refine ws_r rfl rfl rfl rfl (rd_move rfl) ?_
          refine ws_r rfl rfl rfl rfl (rd_index (ow + kx * 82) rfl rfl Try.underlying22 Try.sizeOf46 ⟨by omega, by omega⟩ (by simp)) ?_
          refine ws_r rfl rfl rfl rfl (rd_load rfl) ?_
          refine ws_r rfl rfl rfl rfl (rd_move rfl) ?_
          refine ws_r rfl rfl rfl rfl (rd_move rfl) ?_
          refine ws_r rfl rfl rfl rfl (rd_index (ov + i * 82) rfl rfl Try.underlying22 Try.sizeOf46 ⟨by omega, by omega⟩ (by simp)) ?_
          refine ws_r rfl rfl rfl rfl (rd_load rfl) ?_
          refine ws_late rfl ?_
          refine ws_lp _ rfl rfl rfl rfl (rd_eqrr rfl rfl (by kernel_rfl)) ?_ ?_
          · intro h72
            have hxm : x ∈ ownB := by rw [← h72]; exact List.mem_of_getElem? hy
            refine ws_l rfl rfl rfl rfl (rd_pick_t rfl rfl) ?_
            refine ws_l rfl rfl rfl rfl (rd_assign rfl) ?_
            refine ws_nil ?_
            refine qe_block ?_
            refine qe_then ?_
            refine wc_plain [(0, .x true), (1, .x true), (2, .x true)] (by kernel_rfl) ?_
            refine ws_l rfl rfl rfl rfl (rd_move rfl) ?_
            refine ws_l rfl rfl rfl rfl (rd_arith (((i + 1 : Nat) : Int)) rfl rfl rfl (by rw [wrap_i64 _ (by omega) (by omega)]; omega)) ?_
            refine ws_l rfl rfl rfl rfl (rd_assign rfl) ?_
            refine ws_nil ?_
            exact qe_loop fun ac2 w2 hs2 => ⟨_, by omega, i + 1, true, rfl, (by simp only [cmpP] at h48; omega), (by rw [take_at hx, List.all_append, ← Bool.and_assoc, ← heb]; simp [hxm]), st_sub hs2 _ rfl⟩
          · intro h72
            have hxm : ¬ x ∈ ownB := fun h => h72 (uniq hokB.nd (List.mem_of_getElem? hy) h hye)
            refine ws_l rfl rfl rfl rfl (rd_pick_t rfl rfl) ?_
            refine ws_l rfl rfl rfl rfl (rd_assign rfl) ?_
            refine ws_nil ?_
            refine qe_block ?_
            refine qe_then ?_
            refine wc_plain [(0, .x true), (1, .x true), (2, .x true)] (by kernel_rfl) ?_
            refine ws_l rfl rfl rfl rfl (rd_move rfl) ?_
            refine ws_l rfl rfl rfl rfl (rd_arith (((i + 1 : Nat) : Int)) rfl rfl rfl (by rw [wrap_i64 _ (by omega) (by omega)]; omega)) ?_
            refine ws_l rfl rfl rfl rfl (rd_assign rfl) ?_
            refine ws_nil ?_
            exact qe_loop fun ac2 w2 hs2 => ⟨_, by omega, i + 1, false, rfl, (by simp only [cmpP] at h48; omega), (by rw [take_at hx, List.all_append, ← Bool.and_assoc, ← heb]; simp [hxm]), st_sub hs2 _ rfl⟩
    · intro h48
      refine ws_l rfl rfl rfl rfl (rd_move rfl) ?_
      refine ws_xskip rfl rfl rfl rfl ?_
      refine ws_l rfl rfl rfl rfl (rd_pick_f rfl rfl) ?_
      refine ws_nil ?_
      refine qe_then ?_
      refine wc_false rfl ?_
      refine wc_exit ?_
      refine qe_then_exit ?_
      refine qe_then_exit ?_
      refine qe_block_exit ?_
      refine qe_then ?_
      refine wc_keep [(5, _), (7, _), (10, _), (13, _)] rfl ?_
      refine wc_seq ?_
      refine wc_seq ?_
      refine wc_plain [(0, .x true), (1, .x true), (2, .x true), (3, .x true), (4, .x true), (5, .x true), (6, .x true), (7, .x true), (8, .x true), (9, .x true), (10, .x true), (11, .x true)] (by kernel_rfl) ?_
      refine ws_l rfl rfl rfl rfl (rd_move rfl) ?_
      refine ws_l rfl rfl rfl rfl (rd_move rfl) ?_
      refine ws_callp rfl rfl rfl rfl rfl (En.go) (fun w hp hn ho => equal_ret p k pB kB m mB es esB c cB L LB hL hLB (νs ++ νsB) (fun q hq => (hok.grp q hq).mono (fun q hq => List.mem_append_left _ hq)) (fun id y h => ((hokB.look h).2.2).mono (fun q hq => List.mem_append_right _ hq)) w (hp.mono SubH.mem) (SubH.nd hn)) ?_
      refine ws_l rfl rfl rfl rfl (rd_move rfl) ?_
      have heqo : eqOB own ownB = eb := heq_done (.inl (by simp only [cmpP] at h48; omega)) heb
      refine ws_l rfl rfl rfl rfl (rd_bneq rfl rfl Try.underlying4 ((eqM_eqO hok hokB).trans heqo)) ?_
      refine ws_l rfl rfl rfl rfl (rd_move rfl) ?_
      refine ws_l rfl rfl rfl rfl (rd_move rfl) ?_
      refine ws_l rfl rfl rfl rfl (rd_move rfl) ?_
      refine ws_callp rfl rfl rfl rfl rfl (En.go) (fun w hp hn ho => equal_ret pB kB p k mB m esB es cB c LB L hLB hL (νsB ++ νs) (fun q hq => (hokB.grp q hq).mono (fun q hq => List.mem_append_left _ hq)) (fun id y h => ((hok.look h).2.2).mono (fun q hq => List.mem_append_right _ hq)) w (hp.mono SubH.mem) (SubH.nd hn)) ?_
      refine ws_l rfl rfl rfl rfl (rd_move rfl) ?_
      refine ws_l rfl rfl rfl rfl (rd_bneq rfl rfl Try.underlying4 ((eqM_eqO hokB hok).trans ((eqOB_comm hokB.nd hok.nd).trans heqo))) ?_
      refine ws_l rfl rfl rfl rfl (rd_pick_f rfl rfl) ?_
      refine ws_nil ?_
      refine qe_then ?_
      refine wc_keep [(5, _), (7, _), (85, _)] rfl ?_
      refine wc_false rfl ?_
      refine wc_skip ?_
      refine qe_then ?_
      refine wc_seq ?_
      refine wc_plain [(0, .x true), (1, .x true), (2, .x true)] (by kernel_rfl) ?_
      refine ws_l rfl rfl rfl rfl (rd_move rfl) ?_
      refine ws_call rfl rfl rfl rfl rfl (En.go) (fun w hp hn ho => clone_ret p m k es ws c d L W own νs hL hW hok (by omega) w (hp.mono SubH.mem) (SubH.nd hn)) (fun _ h => by cases h) (fun hh q h => by first | (cases h; done) | exact hh q h) ?_
      rintro v87 wa wb hpo hon hon2 hp1 ⟨p2, m2, k2, es2, c2, ws2, d2, L2, W2, ν2, rfl, hset2, hsnd2, hsfar2, hL2, hW2, hok2⟩
      refine ⟨_, hset2, hsnd2, fun b hb => .inl (hsfar2 b hb), ?_⟩
      simp only [List.cons_append]
      have hmb2 := Nat.le_trans hon.size (hsfar2 m2 (by simp))
      have hkb2 := Nat.le_trans hon.size (hsfar2 k2 (by simp))
      refine ws_l rfl rfl rfl rfl (rd_assign rfl) ?_
      refine ws_nil ?_
      refine qe_then ?_
      refine wc_seq ?_
      refine wc_seq ?_
      refine wc_plain [(0, .x true), (1, .x true), (2, .x true), (3, .x true), (4, .x true), (5, .x true), (6, .x true), (7, .x true)] (by kernel_rfl) ?_
      refine ws_l rfl rfl rfl rfl (rd_move rfl) ?_
      refine ws_l rfl rfl rfl rfl (rd_ptr_nil rfl rfl Try.underlying49 rfl) ?_
      refine ws_l rfl rfl rfl rfl (rd_move rfl) ?_
      refine ws_l rfl rfl rfl rfl (rd_move rfl) ?_
      refine ws_l rfl rfl rfl rfl (rd_move rfl) ?_
      refine ws_callp rfl rfl rfl rfl rfl (En.go) (fun w hp hn ho => by have h := equal_ret p2 k2 p k m2 m es2 es c2 c L2 L hL2 hL (ν2 ++ νs) (fun q hq => hok2.grp q hq) (fun id y h => ((hok.look h).2.2).mono (fun q hq => List.mem_append_right _ hq)) w (hp.mono SubH.mem) (SubH.nd hn); rwa [eqM_eqO hok2 hok, eqOB_refl] at h) ?_
      refine ws_l rfl rfl rfl rfl (rd_not rfl) ?_
      refine ws_l rfl rfl rfl rfl (rd_pick_f rfl rfl) ?_
      refine ws_nil ?_
      refine qe_then ?_
      refine wc_keep [(5, _), (7, _), (16, _), (95, _)] rfl ?_
      refine wc_false rfl ?_
      refine wc_skip ?_
      refine qe_then ?_
      refine wc_seq ?_
      refine wc_seq ?_
      refine wc_plain [(0, .x true), (1, .x true), (2, .x true), (3, .x true), (4, .x true), (5, .x true), (6, .x true), (7, .x true), (8, .x true), (9, .x true), (10, .x true), (11, .x true), (12, .x true), (13, .x true), (14, .x true)] (by kernel_rfl) ?_
      refine ws_l rfl rfl rfl rfl (rd_move rfl) ?_
      refine ws_l rfl rfl rfl rfl (rd_load rfl) ?_
      refine ws_call rfl rfl rfl rfl rfl (En.go) (fun w hp hn ho => drop_ret p2 m2 k2 es2 ws2 c2 d2 L2 W2 own (ν2 ++ νs) hL2 hW2 hok2 (by omega) id w (hp.mono SubH.mem) (SubH.nd hn)) (fun b hb => by simp only [List.mem_cons, List.not_mem_nil, or_false] at hb; rcases hb with rfl | rfl; exact .inl hmb2; exact .inl hkb2) (fun hh q h => by first | (cases h; done) | exact hh q h) ?_
      rintro v98 wa wb hpo hon hon2 hp1 ⟨rfl, es1, c1, ws1, d1, L1, W1, ν1, hp2, hnd2, hfar2, hL1, hW1, hok1⟩
      refine ⟨(m2, .map es1 c1) :: (k2, .map ws1 d1) :: ν1, hp2, hnd2, fun b hb => by simp only [List.map_cons, List.mem_cons] at hb; rcases hb with rfl | rfl | hb; exact .inr (by simp); exact .inr (by simp); exact .inl (hfar2 b hb), ?_⟩
      simp only [List.cons_append]
      by_cases hid : ∃ x ∈ own, x.id = id
      ·
        refine ws_l rfl rfl rfl rfl (rd_cmp_t rfl rfl rfl (by simp only [cmpP]; rw [dropE, if_pos hid])) ?_
        have hshort : (dropO own id).length ≠ own.length := by obtain ⟨x, hx, rfl⟩ := hid; have := dropO_short hx; omega
        refine ws_l rfl rfl rfl rfl (rd_move rfl) ?_
        refine ws_l rfl rfl rfl rfl (rd_move rfl) ?_
        refine ws_l rfl rfl rfl rfl (rd_move rfl) ?_
        refine ws_callp rfl rfl rfl rfl rfl (En.go) (fun w hp hn ho => by have h := equal_ret p2 k2 p k m2 m es1 es c1 c L1 L hL1 hL (ν1 ++ (ν2 ++ νs)) (fun q hq => hok1.grp q hq) (fun id y h => ((hok.look h).2.2).mono (fun q hq => List.mem_append_right _ (List.mem_append_right _ hq))) w (hp.mono SubH.mem) (SubH.nd hn); rwa [eqM_eqO hok1 hok, eqOB_len hshort] at h) ?_
        refine ws_l rfl rfl rfl rfl (rd_move rfl) ?_
        refine ws_l rfl rfl rfl rfl (rd_move rfl) ?_
        refine ws_l rfl rfl rfl rfl (rd_load rfl) ?_
        refine ws_callp rfl rfl rfl rfl rfl (En.go) (fun w hp hn ho => by have h := has_ret p m k es ws c d L W own νs hL hW hok (by omega) id w (hp.mono SubH.mem) (SubH.nd hn); rwa [decide_eq_true hid] at h) ?_
        refine ws_l rfl rfl rfl rfl (rd_not rfl) ?_
        refine ws_l rfl rfl rfl rfl (rd_pick_f rfl rfl) ?_
        refine ws_l rfl rfl rfl rfl (rd_pick_t rfl rfl) ?_
        refine ws_nil ?_
        refine qe_then ?_
        refine wc_keep [(5, _), (7, _), (110, _)] rfl ?_
        refine wc_false rfl ?_
        refine wc_skip ?_
        refine qe_then ?_
        refine wc_seq ?_
        refine wc_plain [(0, .x true)] (by kernel_rfl) ?_
        refine ws_l rfl rfl rfl rfl (rd_assign rfl) ?_
        refine ws_nil ?_
        refine qe_then ?_
        refine wc_seq ?_
        refine wc_plain [(0, .x true), (1, .x true), (2, .x true), (3, .x true), (4, .x true), (5, .x true), (6, .x true), (7, .x true), (8, .x true)] (by kernel_rfl) ?_
        refine ws_l rfl rfl rfl rfl (rd_move rfl) ?_
        refine ws_l rfl rfl rfl rfl (rd_load rfl) ?_
        refine ws_callp rfl rfl rfl rfl rfl (En.go) (fun w hp hn ho => end_nil id w) ?_
        refine ws_l rfl rfl rfl rfl (rd_move rfl) ?_
        refine ws_l rfl rfl rfl rfl (rd_extract rfl) ?_
        refine ws_l rfl rfl rfl rfl (rd_extract rfl) ?_
        refine ws_alloc rfl rfl rfl ?_
        intro b18 hb18
        refine ws_store rfl rfl rfl rfl (by first | exact .inl (by assumption) | exact .inr (by simp)) (fun _ h _ => by first | (cases h; done) | exact List.mem_cons_of_mem _ h | exact List.mem_cons_of_mem _ (List.mem_cons_of_mem _ h) | (simp at h ⊢; simp [h])) ?_
        refine ws_l rfl rfl rfl rfl (rd_assign rfl) ?_
        refine ws_nil ?_
        refine qe_then ?_
        refine wc_keep [(5, _), (7, _), (17, _), (19, _)] rfl ?_
        refine wc_seq ?_
        refine wc_plain [(0, .x true), (1, .x true), (2, .x true), (3, .x true), (4, .x true), (5, .x true), (6, .x true), (7, .x true), (8, .x true), (9, .x true), (10, .x true), (11, .x true), (12, .x true), (13, .x true), (14, .x true), (15, .x true), (16, .x true), (17, .x true), (18, .x true), (19, .x true), (20, .x true), (21, .x true), (22, .x true), (23, .x true), (24, .x true), (25, .x true), (26, .x true), (27, .x true), (28, .x true), (29, .x true), (30, .x true), (31, .x true), (32, .x true), (33, .x true), (34, .x true), (35, .x true), (36, .x true), (37, .x true), (38, .x true), (39, .x true), (40, .x true), (41, .x true), (42, .x true), (43, .x true), (44, .x true), (45, .x true), (46, .x true), (47, .x true), (48, .x true), (49, .x true), (50, .x true), (51, .x true), (52, .x true), (53, .x true), (54, .x true), (55, .x true), (56, .x true), (57, .x true), (58, .x true), (59, .x true)] (by kernel_rfl) ?_
        refine ws_l rfl rfl rfl rfl (rd_move rfl) ?_
        refine ws_l rfl rfl rfl rfl (rd_build rfl) ?_
        refine ws_callp rfl rfl rfl rfl rfl (En.go) (fun w hp hn ho => add_nil w) ?_
        refine ws_l rfl rfl rfl rfl (rd_cmp_t rfl rfl rfl (by simp [cmpP])) ?_
        refine ws_l rfl rfl rfl rfl (rd_move rfl) ?_
        refine ws_l rfl rfl rfl rfl (rd_move rfl) ?_
        refine ws_l rfl rfl rfl rfl (rd_load rfl) ?_
        refine ws_callp rfl rfl rfl rfl rfl (En.go) (fun w hp hn ho => drop_nil id w) ?_
        refine ws_l rfl rfl rfl rfl (rd_cmp_t rfl rfl rfl (by simp [cmpP])) ?_
        refine ws_l rfl rfl rfl rfl (rd_pick_t rfl rfl) ?_
        refine ws_l rfl rfl rfl rfl (rd_move rfl) ?_
        refine ws_l rfl rfl rfl rfl (rd_move rfl) ?_
        refine ws_l rfl rfl rfl rfl (rd_load rfl) ?_
        refine ws_callp rfl rfl rfl rfl rfl (En.go) (fun w hp hn ho => has_nil id w) ?_
        refine ws_l rfl rfl rfl rfl (rd_not rfl) ?_
        refine ws_l rfl rfl rfl rfl (rd_pick_t rfl rfl) ?_
        refine ws_l rfl rfl rfl rfl (rd_move rfl) ?_
        refine ws_l rfl rfl rfl rfl (rd_move rfl) ?_
        refine ws_l rfl rfl rfl rfl (rd_load rfl) ?_
        refine ws_callp rfl rfl rfl rfl rfl (En.go) (fun w hp hn ho => wd_nil id w) ?_
        refine ws_l rfl rfl rfl rfl (rd_not rfl) ?_
        refine ws_l rfl rfl rfl rfl (rd_pick_t rfl rfl) ?_
        refine ws_l rfl rfl rfl rfl (rd_move rfl) ?_
        refine ws_l rfl rfl rfl rfl (rd_move rfl) ?_
        refine ws_l rfl rfl rfl rfl (rd_not rfl) ?_
        refine ws_l rfl rfl rfl rfl (rd_pick_t rfl rfl) ?_
        refine ws_l rfl rfl rfl rfl (rd_move rfl) ?_
        refine ws_l rfl rfl rfl rfl (rd_move rfl) ?_
        refine ws_l rfl rfl rfl rfl (rd_load rfl) ?_
        refine ws_callp rfl rfl rfl rfl rfl (En.go) (fun w hp hn ho => path_nil id w) ?_
        refine ws_l rfl rfl rfl rfl (rd_len rfl Try.underlying26) ?_
        refine ws_l rfl rfl rfl rfl (rd_cmp_t rfl rfl rfl (by simp [cmpP])) ?_
        refine ws_l rfl rfl rfl rfl (rd_pick_t rfl rfl) ?_
        refine ws_l rfl rfl rfl rfl (rd_move rfl) ?_
        refine ws_l rfl rfl rfl rfl (rd_move rfl) ?_
        refine ws_l rfl rfl rfl rfl (rd_load rfl) ?_
        refine ws_callp rfl rfl rfl rfl rfl (En.go) (fun w hp hn ho => succ_nil id w) ?_
        refine ws_l rfl rfl rfl rfl (rd_len rfl Try.underlying26) ?_
        refine ws_l rfl rfl rfl rfl (rd_cmp_t rfl rfl rfl (by simp [cmpP])) ?_
        refine ws_l rfl rfl rfl rfl (rd_pick_t rfl rfl) ?_
        refine ws_l rfl rfl rfl rfl (rd_move rfl) ?_
        refine ws_l rfl rfl rfl rfl (rd_move rfl) ?_
        refine ws_callp rfl rfl rfl rfl rfl (En.go) (fun w hp hn ho => len_nil w) ?_
        refine ws_l rfl rfl rfl rfl (rd_cmp_t rfl rfl rfl (by simp [cmpP])) ?_
        refine ws_l rfl rfl rfl rfl (rd_pick_t rfl rfl) ?_
        refine ws_l rfl rfl rfl rfl (rd_move rfl) ?_
        refine ws_l rfl rfl rfl rfl (rd_move rfl) ?_
        refine ws_callp rfl rfl rfl rfl rfl (En.go) (fun w hp hn ho => clone_nil w) ?_
        refine ws_l rfl rfl rfl rfl (rd_nil_nil rfl rfl Try.underlying49 rfl) ?_
        refine ws_l rfl rfl rfl rfl (rd_pick_t rfl rfl) ?_
        refine ws_l rfl rfl rfl rfl (rd_move rfl) ?_
        refine ws_l rfl rfl rfl rfl (rd_move rfl) ?_
        refine ws_callp rfl rfl rfl rfl rfl (En.go) (fun w hp hn ho => equal_nils w) ?_
        refine ws_l rfl rfl rfl rfl (rd_pick_t rfl rfl) ?_
        refine ws_l rfl rfl rfl rfl (rd_move rfl) ?_
        refine ws_l rfl rfl rfl rfl (rd_move rfl) ?_
        refine ws_callp rfl rfl rfl rfl rfl (En.go) (fun w hp hn ho => equal_nil p w) ?_
        refine ws_l rfl rfl rfl rfl (rd_not rfl) ?_
        refine ws_l rfl rfl rfl rfl (rd_pick_t rfl rfl) ?_
        refine ws_l rfl rfl rfl rfl (rd_assign rfl) ?_
        refine ws_nil ?_
        refine qe_then ?_
        refine wc_keep [(6, _)] rfl ?_
        refine wc_ret ?_
        refine qe_body _ (.inl rfl) (res1 rfl (RV.tmp rfl)) ?_
        exact ret_end fun w hp hn ho => rfl
      ·
        refine ws_l rfl rfl rfl rfl (rd_cmp_f rfl rfl rfl (by simp only [cmpP]; rw [dropE, if_neg hid]; decide)) ?_
        refine ws_l rfl rfl rfl rfl (rd_move rfl) ?_
        refine ws_xskip rfl rfl rfl rfl ?_
        refine ws_xskip rfl rfl rfl rfl ?_
        refine ws_xskip rfl rfl rfl rfl ?_
        refine ws_xskip rfl rfl rfl rfl ?_
        refine ws_xskip rfl rfl rfl rfl ?_
        refine ws_xskip rfl rfl rfl rfl ?_
        refine ws_xskip rfl rfl rfl rfl ?_
        refine ws_xskip rfl rfl rfl rfl ?_
        refine ws_xskip rfl rfl rfl rfl ?_
        refine ws_l rfl rfl rfl rfl (rd_pick_f rfl rfl) ?_
        refine ws_nil ?_
        refine qe_then ?_
        refine wc_keep [(5, _), (7, _), (110, _)] rfl ?_
        refine wc_false rfl ?_
        refine wc_skip ?_
        refine qe_then ?_
        refine wc_seq ?_
        refine wc_plain [(0, .x true)] (by kernel_rfl) ?_
        refine ws_l rfl rfl rfl rfl (rd_assign rfl) ?_
        refine ws_nil ?_
        refine qe_then ?_
        refine wc_seq ?_
        refine wc_plain [(0, .x true), (1, .x true), (2, .x true), (3, .x true), (4, .x true), (5, .x true), (6, .x true), (7, .x true), (8, .x true)] (by kernel_rfl) ?_
        refine ws_l rfl rfl rfl rfl (rd_move rfl) ?_
        refine ws_l rfl rfl rfl rfl (rd_load rfl) ?_
        refine ws_callp rfl rfl rfl rfl rfl (En.go) (fun w hp hn ho => end_nil id w) ?_
        refine ws_l rfl rfl rfl rfl (rd_move rfl) ?_
        refine ws_l rfl rfl rfl rfl (rd_extract rfl) ?_
        refine ws_l rfl rfl rfl rfl (rd_extract rfl) ?_
        refine ws_alloc rfl rfl rfl ?_
        intro b18 hb18
        refine ws_store rfl rfl rfl rfl (by first | exact .inl (by assumption) | exact .inr (by simp)) (fun _ h _ => by first | (cases h; done) | exact List.mem_cons_of_mem _ h | exact List.mem_cons_of_mem _ (List.mem_cons_of_mem _ h) | (simp at h ⊢; simp [h])) ?_
        refine ws_l rfl rfl rfl rfl (rd_assign rfl) ?_
        refine ws_nil ?_
        refine qe_then ?_
        refine wc_keep [(5, _), (7, _), (17, _), (19, _)] rfl ?_
        refine wc_seq ?_
        refine wc_plain [(0, .x true), (1, .x true), (2, .x true), (3, .x true), (4, .x true), (5, .x true), (6, .x true), (7, .x true), (8, .x true), (9, .x true), (10, .x true), (11, .x true), (12, .x true), (13, .x true), (14, .x true), (15, .x true), (16, .x true), (17, .x true), (18, .x true), (19, .x true), (20, .x true), (21, .x true), (22, .x true), (23, .x true), (24, .x true), (25, .x true), (26, .x true), (27, .x true), (28, .x true), (29, .x true), (30, .x true), (31, .x true), (32, .x true), (33, .x true), (34, .x true), (35, .x true), (36, .x true), (37, .x true), (38, .x true), (39, .x true), (40, .x true), (41, .x true), (42, .x true), (43, .x true), (44, .x true), (45, .x true), (46, .x true), (47, .x true), (48, .x true), (49, .x true), (50, .x true), (51, .x true), (52, .x true), (53, .x true), (54, .x true), (55, .x true), (56, .x true), (57, .x true), (58, .x true), (59, .x true)] (by kernel_rfl) ?_
        refine ws_l rfl rfl rfl rfl (rd_move rfl) ?_
        refine ws_l rfl rfl rfl rfl (rd_build rfl) ?_
        refine ws_callp rfl rfl rfl rfl rfl (En.go) (fun w hp hn ho => add_nil w) ?_
        refine ws_l rfl rfl rfl rfl (rd_cmp_t rfl rfl rfl (by simp [cmpP])) ?_
        refine ws_l rfl rfl rfl rfl (rd_move rfl) ?_
        refine ws_l rfl rfl rfl rfl (rd_move rfl) ?_
        refine ws_l rfl rfl rfl rfl (rd_load rfl) ?_
        refine ws_callp rfl rfl rfl rfl rfl (En.go) (fun w hp hn ho => drop_nil id w) ?_
        refine ws_l rfl rfl rfl rfl (rd_cmp_t rfl rfl rfl (by simp [cmpP])) ?_
        refine ws_l rfl rfl rfl rfl (rd_pick_t rfl rfl) ?_
        refine ws_l rfl rfl rfl rfl (rd_move rfl) ?_
        refine ws_l rfl rfl rfl rfl (rd_move rfl) ?_
        refine ws_l rfl rfl rfl rfl (rd_load rfl) ?_
        refine ws_callp rfl rfl rfl rfl rfl (En.go) (fun w hp hn ho => has_nil id w) ?_
        refine ws_l rfl rfl rfl rfl (rd_not rfl) ?_
        refine ws_l rfl rfl rfl rfl (rd_pick_t rfl rfl) ?_
        refine ws_l rfl rfl rfl rfl (rd_move rfl) ?_
        refine ws_l rfl rfl rfl rfl (rd_move rfl) ?_
        refine ws_l rfl rfl rfl rfl (rd_load rfl) ?_
        refine ws_callp rfl rfl rfl rfl rfl (En.go) (fun w hp hn ho => wd_nil id w) ?_
        refine ws_l rfl rfl rfl rfl (rd_not rfl) ?_
        refine ws_l rfl rfl rfl rfl (rd_pick_t rfl rfl) ?_
        refine ws_l rfl rfl rfl rfl (rd_move rfl) ?_
        refine ws_l rfl rfl rfl rfl (rd_move rfl) ?_
        refine ws_l rfl rfl rfl rfl (rd_not rfl) ?_
        refine ws_l rfl rfl rfl rfl (rd_pick_t rfl rfl) ?_
        refine ws_l rfl rfl rfl rfl (rd_move rfl) ?_
        refine ws_l rfl rfl rfl rfl (rd_move rfl) ?_
        refine ws_l rfl rfl rfl rfl (rd_load rfl) ?_
        refine ws_callp rfl rfl rfl rfl rfl (En.go) (fun w hp hn ho => path_nil id w) ?_
        refine ws_l rfl rfl rfl rfl (rd_len rfl Try.underlying26) ?_
        refine ws_l rfl rfl rfl rfl (rd_cmp_t rfl rfl rfl (by simp [cmpP])) ?_
        refine ws_l rfl rfl rfl rfl (rd_pick_t rfl rfl) ?_
        refine ws_l rfl rfl rfl rfl (rd_move rfl) ?_
        refine ws_l rfl rfl rfl rfl (rd_move rfl) ?_
        refine ws_l rfl rfl rfl rfl (rd_load rfl) ?_
        refine ws_callp rfl rfl rfl rfl rfl (En.go) (fun w hp hn ho => succ_nil id w) ?_
        refine ws_l rfl rfl rfl rfl (rd_len rfl Try.underlying26) ?_
        refine ws_l rfl rfl rfl rfl (rd_cmp_t rfl rfl rfl (by simp [cmpP])) ?_
        refine ws_l rfl rfl rfl rfl (rd_pick_t rfl rfl) ?_
        refine ws_l rfl rfl rfl rfl (rd_move rfl) ?_
        refine ws_l rfl rfl rfl rfl (rd_move rfl) ?_
        refine ws_callp rfl rfl rfl rfl rfl (En.go) (fun w hp hn ho => len_nil w) ?_
        refine ws_l rfl rfl rfl rfl (rd_cmp_t rfl rfl rfl (by simp [cmpP])) ?_
        refine ws_l rfl rfl rfl rfl (rd_pick_t rfl rfl) ?_
        refine ws_l rfl rfl rfl rfl (rd_move rfl) ?_
        refine ws_l rfl rfl rfl rfl (rd_move rfl) ?_
        refine ws_callp rfl rfl rfl rfl rfl (En.go) (fun w hp hn ho => clone_nil w) ?_
        refine ws_l rfl rfl rfl rfl (rd_nil_nil rfl rfl Try.underlying49 rfl) ?_
        refine ws_l rfl rfl rfl rfl (rd_pick_t rfl rfl) ?_
        refine ws_l rfl rfl rfl rfl (rd_move rfl) ?_
        refine ws_l rfl rfl rfl rfl (rd_move rfl) ?_
        refine ws_callp rfl rfl rfl rfl rfl (En.go) (fun w hp hn ho => equal_nils w) ?_
        refine ws_l rfl rfl rfl rfl (rd_pick_t rfl rfl) ?_
        refine ws_l rfl rfl rfl rfl (rd_move rfl) ?_
        refine ws_l rfl rfl rfl rfl (rd_move rfl) ?_
        refine ws_callp rfl rfl rfl rfl rfl (En.go) (fun w hp hn ho => equal_nil p w) ?_
        refine ws_l rfl rfl rfl rfl (rd_not rfl) ?_
        refine ws_l rfl rfl rfl rfl (rd_pick_t rfl rfl) ?_
        refine ws_l rfl rfl rfl rfl (rd_assign rfl) ?_
        refine ws_nil ?_
        refine qe_then ?_
        refine wc_keep [(6, _)] rfl ?_
        refine wc_ret ?_
        refine qe_body _ (.inl rfl) (res1 rfl (RV.tmp rfl)) ?_
        exact ret_end fun w hp hn ho => rfl

end Go.Proofs.Ytaagmgpfpaanlaa
