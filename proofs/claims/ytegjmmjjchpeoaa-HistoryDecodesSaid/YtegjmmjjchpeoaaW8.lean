/- Walks: the examples (known), HistoryChecks, HistoryJudges. No conditions. -/
import Derived.Test.YtegjmmjjchpeoaaW7
namespace Go.Proofs.Ytegjmmjjchpeoaa
open Go Go.RowKit Go.Sx
set_option linter.unusedSimpArgs false
set_option linter.unusedVariables false

set_option maxRecDepth 100000 in
set_option maxHeartbeats 2000000 in
theorem known_ret (w : World) : Ret Try.prog 12 [] w [] (fun v _ => v = .bool true) := by
  refine enter (n := 95) (args := []) [] [] Try.func12 rfl rfl rfl (HpOK.nil w) (by simp) ?_
  refine wc_seq ?_
  refine wc_plain [(0, .x true)] (by kernel_rfl) ?_
  refine ws_l rfl rfl rfl rfl (rd_assign rfl) ?_
  refine ws_nil ?_
  refine qe_then ?_
  refine wc_seq ?_
  refine wc_plain [(0, .x true), (1, .x true)] (by kernel_rfl) ?_
  refine ws_call rfl rfl rfl rfl rfl (En.go) (fun w hp hn ho => new_ret w) (fun _ h => by cases h) (fun hh q h => by first | (cases h; done) | exact hh q h) ?_
  rintro v12 wa wb hpo hon hon2 hp1 ⟨p, m, rfl, hp0, hm0, hne, hpm⟩
  refine ⟨hist p m 0 #[] 0, hpm, by simp [hne], fun b hb => .inl (by simp at hb; rcases hb with rfl | rfl; exact hp0; exact hm0), ?_⟩
  replace hp0 := Nat.le_trans hon.size hp0
  replace hm0 := Nat.le_trans hon.size hm0
  simp only [hist, List.cons_append, List.nil_append]
  refine ws_l rfl rfl rfl rfl (rd_assign rfl) ?_
  refine ws_nil ?_
  refine qe_then ?_
  refine wc_seq ?_
  refine wc_seq ?_
  refine wc_plain [(0, .x true), (1, .x true)] (by kernel_rfl) ?_
  refine ws_l rfl rfl rfl rfl (rd_move rfl) ?_
  refine ws_l rfl rfl rfl rfl (rd_ptr_nil rfl rfl Try.underlying35 rfl) ?_
  refine ws_nil ?_
  refine qe_then ?_
  refine wc_false rfl ?_
  refine wc_skip ?_
  refine qe_then ?_
  refine wc_seq ?_
  refine wc_plain [(0, .x true), (1, .x true), (2, .x true)] (by kernel_rfl) ?_
  refine ws_l rfl rfl rfl rfl (rd_build rfl) ?_
  refine ws_alloc rfl rfl rfl ?_
  intro b2 hb2
  refine ws_store rfl rfl rfl rfl (by first | exact .inl (by assumption) | exact .inr (by simp)) (fun _ h _ => by first | (cases h; done) | exact List.mem_cons_of_mem _ h | exact List.mem_cons_of_mem _ (List.mem_cons_of_mem _ h) | (simp at h ⊢; simp [h])) ?_
  refine ws_nil ?_
  refine qe_then ?_
  refine wc_seq ?_
  refine wc_drawn mixedT _ (fun _ h => h) [(0, .r), (1, .r), (3, .r), (4, .r), (6, .r), (7, .r), (2, .x false), (5, .x false), (8, .x true), (9, .x true), (10, .x true), (11, .x true)] (by kernel_rfl) ?_
  refine ws_r rfl rfl rfl rfl (rd_move rfl) ?_
  refine ws_r rfl rfl rfl rfl (rd_load rfl) ?_
  refine ws_r rfl rfl rfl rfl (rd_move rfl) ?_
  refine ws_r rfl rfl rfl rfl (rd_load rfl) ?_
  refine ws_r rfl rfl rfl rfl (rd_move rfl) ?_
  refine ws_r rfl rfl rfl rfl (rd_load rfl) ?_
  refine ws_callp rfl rfl rfl rfl rfl (En.go) (fun w hp hn ho => (judge_ret p m 0 #[] 0 [] (MapIs.empty _ _ _) hne (by omega) kid 9840 30000 false w (hp.mono (by simp))).mono (fun _ h => h) (fun v w1 _ h => by rw [h]; simp [judgeF, minuteB, oldB] : ∀ v w1, Only [] w w1 → v = _ → v = I 0)) ?_
  refine ws_callp rfl rfl rfl rfl rfl (En.go) (fun w hp hn ho => (judge_ret p m 0 #[] 0 [] (MapIs.empty _ _ _) hne (by omega) kid 9839 30000 false w (hp.mono (by simp))).mono (fun _ h => h) (fun v w1 _ h => by rw [h]; simp [judgeF, minuteB, oldB] : ∀ v w1, Only [] w w1 → v = _ → v = I 14)) ?_
  refine ws_late rfl ?_
  refine ws_callp rfl rfl rfl rfl rfl (En.go) (fun w hp hn ho => (judge_ret p m 0 #[] 0 [] (MapIs.empty _ _ _) hne (by omega) kid 9839 30000 true w (hp.mono (by simp))).mono (fun _ h => h) (fun v w1 _ h => by rw [h]; simp [judgeF, minuteB, oldB] : ∀ v w1, Only [] w w1 → v = _ → v = I 0)) ?_
  refine ws_l rfl rfl rfl rfl (rd_assign rfl) ?_
  refine ws_l rfl rfl rfl rfl (rd_assign rfl) ?_
  refine ws_l rfl rfl rfl rfl (rd_assign rfl) ?_
  refine ws_nil ?_
  refine qe_then ?_
  refine wc_keep [(0, _), (1, _), (2, _), (3, _), (4, _), (5, _)] rfl ?_
  refine wc_seq ?_
  refine wc_drawn mixedT _ (fun _ h => h) [(0, .r), (1, .r), (3, .r), (4, .r), (2, .x false), (5, .x true), (6, .x true), (7, .x true)] (by kernel_rfl) ?_
  refine ws_r rfl rfl rfl rfl (rd_move rfl) ?_
  refine ws_r rfl rfl rfl rfl (rd_load rfl) ?_
  refine ws_r rfl rfl rfl rfl (rd_move rfl) ?_
  refine ws_r rfl rfl rfl rfl (rd_load rfl) ?_
  refine ws_callp rfl rfl rfl rfl rfl (En.go) (fun w hp hn ho => (judge_ret p m 0 #[] 0 [] (MapIs.empty _ _ _) hne (by omega) kid 31440 30000 false w (hp.mono (by simp))).mono (fun _ h => h) (fun v w1 _ h => by rw [h]; simp [judgeF, minuteB, oldB] : ∀ v w1, Only [] w w1 → v = _ → v = I 0)) ?_
  refine ws_late rfl ?_
  refine ws_callp rfl rfl rfl rfl rfl (En.go) (fun w hp hn ho => (judge_ret p m 0 #[] 0 [] (MapIs.empty _ _ _) hne (by omega) kid 31441 30000 false w (hp.mono (by simp))).mono (fun _ h => h) (fun v w1 _ h => by rw [h]; simp [judgeF, minuteB, oldB] : ∀ v w1, Only [] w w1 → v = _ → v = I 15)) ?_
  refine ws_l rfl rfl rfl rfl (rd_assign rfl) ?_
  refine ws_l rfl rfl rfl rfl (rd_assign rfl) ?_
  refine ws_nil ?_
  refine qe_then ?_
  refine wc_keep [(0, _), (1, _), (2, _), (3, _), (4, _), (5, _), (6, _), (7, _)] rfl ?_
  refine wc_seq ?_
  refine wc_plain [(0, .x true), (1, .x true), (2, .x true), (3, .x true), (4, .x true)] (by kernel_rfl) ?_
  refine ws_l rfl rfl rfl rfl (rd_move rfl) ?_
  refine ws_l rfl rfl rfl rfl (rd_load rfl) ?_
  refine ws_l rfl rfl rfl rfl (rd_build rfl) ?_
  refine ws_call rfl rfl rfl rfl rfl (En.go) (fun w hp hn ho => add_ret p m 0 #[] 0 [] (MapIs.empty _ _ _) hne (by simp) kx w (hp.mono (by simp))) (fun b hb => .inl (by simp at hb; subst hb; exact hm0)) (fun hh q h => by first | (cases h; done) | exact hh q h) ?_
  rintro v34 wa wb hpo hon hon2 hp1 ⟨hv, es1, cl1, hm1, hL1⟩
  have hv0 : v34 = I 0 := by rw [hv, show addErr (mlook [] kx.id).isSome kx = 0 by decide]
  subst hv0
  rw [kx_add] at hL1
  refine ⟨[(m, .map es1 cl1)], fun b o hm => by simp at hm; obtain ⟨rfl, rfl⟩ := hm; exact hm1, by simp, by simp, ?_⟩
  refine ws_l rfl rfl rfl rfl (rd_assign rfl) ?_
  refine ws_nil ?_
  refine qe_then ?_
  refine wc_seq ?_
  refine wc_plain [(0, .x true), (1, .x true), (2, .x true), (3, .x true)] (by kernel_rfl) ?_
  refine ws_l rfl rfl rfl rfl (rd_move rfl) ?_
  refine ws_call rfl rfl rfl rfl rfl (En.go) (fun w hp hn ho => forget_ret p m 0 es1 cl1 [(kid, kx)] hL1 hne (by simp) 20260 w (hp.mono (by simp))) (fun b hb => .inl (by simp at hb; rcases hb with rfl | rfl; exact hp0; exact hm0)) (fun hh q h => by first | (cases h; done) | exact hh q h) ?_
  rintro v36 wa wb hpo hon hon2 hp1 ⟨u1, ν1, gone1, es2, L2, cut1, rfl, hown1, hν1, hh1, hL2, hLe1, hc1, hgp1, hgs1⟩
  have hg1 : gone1 = [] := by have h := hgp1; simp [kx_f1] at h; exact h
  subst hg1
  have hc1' : cut1 = 0 := by rw [hc1]; rfl
  subst hc1'
  have hL2' : L2 = [(kid, kx)] := by rw [hLe1]; rfl
  subst hL2'
  have hpm1 : p < wa.heap.size ∧ m < wa.heap.size := ⟨hpo.lt (b := p) (o := .cells #[.map (some m), I 0] 86 (0, 0)) (by simp), hpo.lt (b := m) (o := .map es1 cl1) (by simp)⟩
  refine ⟨ν1 ++ hist p m 0 es2 cl1, hν1.append hh1, nodup_app hown1.nd (by simp [hne]) hown1.far (by simp; exact hpm1), fun b hb => by rw [List.map_append, List.mem_append] at hb; exact hb.elim (fun h => .inl (hown1.far b h)) (fun h => .inr (by simpa using h)), ?_⟩
  rw [List.append_assoc]; simp only [hist, List.cons_append, List.nil_append]
  replace hown1 := hown1.mono hon.size
  refine ws_l rfl rfl rfl rfl ((rd_lenO hown1 rfl Try.underlying46 : Rd _ _ _ _ (I 0))) ?_
  refine ws_l rfl rfl rfl rfl (rd_assign rfl) ?_
  refine ws_nil ?_
  refine qe_then ?_
  refine wc_keep [(0, _), (1, _), (2, _), (3, _), (4, _), (5, _), (6, _), (7, _), (8, _), (9, _)] rfl ?_
  refine wc_seq ?_
  refine wc_plain [(0, .x true), (1, .x true), (2, .x true)] (by kernel_rfl) ?_
  refine ws_l rfl rfl rfl rfl (rd_move rfl) ?_
  refine ws_call rfl rfl rfl rfl rfl (En.go) (fun w hp hn ho => forget_ret p m 0 es2 cl1 [(kid, kx)] hL2 hne (by simp) 20261 w (hp.mono (by simp))) (fun b hb => .inl (by simp at hb; rcases hb with rfl | rfl; exact hp0; exact hm0)) (fun hh q h => by first | (cases h; done) | exact hh q h) ?_
  rintro v39 wa wb hpo hon hon2 hp1 ⟨u2, ν2, gone2, es3, L3, cut2, rfl, hown2, hν2, hh2, hL3, hLe2, hc2, hgp2, hgs2⟩
  have hg2 : gone2 = [kx] := by have h := hgp2; simp only [List.map_cons, List.map_nil, List.filter_cons, kx_f2, if_true, List.filter_nil] at h; exact List.perm_singleton.1 h
  subst hg2
  have hc2' : cut2 = 20261 := by rw [hc2]; rfl
  subst hc2'
  have hL3' : L3 = [] := by rw [hLe2]; simp
  subst hL3'
  have hpm2 : p < wa.heap.size ∧ m < wa.heap.size := ⟨hpo.lt (b := p) (o := .cells #[.map (some m), I 0] 86 (0, 0)) (by simp), hpo.lt (b := m) (o := .map es2 cl1) (by simp)⟩
  refine ⟨ν2 ++ hist p m 20261 es3 cl1, hν2.append hh2, nodup_app hown2.nd (by simp [hne]) hown2.far (by simp; exact hpm2), fun b hb => by rw [List.map_append, List.mem_append] at hb; exact hb.elim (fun h => .inl (hown2.far b h)) (fun h => .inr (by simpa using h)), ?_⟩
  rw [List.append_assoc]; simp only [hist, List.cons_append, List.nil_append]
  replace hown2 := hown2.mono hon.size
  refine ws_l rfl rfl rfl rfl (rd_assign rfl) ?_
  refine ws_nil ?_
  refine qe_then ?_
  refine wc_seq ?_
  refine wc_plain [(0, .x true), (1, .x true), (2, .x true), (3, .x true)] (by kernel_rfl) ?_
  refine ws_l rfl rfl rfl rfl (rd_move rfl) ?_
  refine ws_l rfl rfl rfl rfl (rd_load rfl) ?_
  refine ws_callp rfl rfl rfl rfl rfl (En.go) (fun w hp hn ho => (judge_ret p m 20261 es3 cl1 [] hL3 hne (by omega) kid 100 200 false w (hp.mono (by simp))).mono (fun _ h => h) (fun v w1 _ h => by rw [h]; simp [judgeF, minuteB, oldB] : ∀ v w1, Only [] w w1 → v = _ → v = I 14)) ?_
  refine ws_l rfl rfl rfl rfl (rd_assign rfl) ?_
  refine ws_nil ?_
  refine qe_then ?_
  refine wc_keep [(0, _), (1, _), (2, _), (3, _), (4, _), (5, _), (6, _), (7, _), (8, _), (9, _), (10, _), (11, _)] rfl ?_
  refine wc_seq ?_
  refine wc_drawn mixedT _ (fun _ h => h) [(0, .r), (1, .r), (2, .r), (3, .r), (4, .x false), (5, .r), (6, .r), (7, .r), (8, .r), (9, .r), (10, .r), (11, .r), (12, .r), (13, .r), (14, .r), (15, .r), (16, .r), (17, .r), (18, .r), (19, .r), (20, .r), (21, .r), (22, .r), (23, .r), (24, .r), (25, .r), (26, .r), (27, .r), (28, .r), (29, .r), (30, .r), (31, .r), (32, .r), (33, .r), (34, .r), (35, .r), (36, .r), (37, .r), (38, .r), (39, .r), (40, .r), (41, .r), (42, .r), (43, .r), (44, .r), (45, .r), (46, .r), (47, .r), (48, .r), (49, .x false), (50, .r), (51, .r), (52, .x true)] (by kernel_rfl) ?_
  refine ws_r rfl rfl rfl rfl (rd_move rfl) ?_
  refine ws_r rfl rfl rfl rfl (rd_cmp_t rfl rfl rfl (by decide)) ?_
  refine ws_r rfl rfl rfl rfl (rd_move rfl) ?_
  refine ws_r rfl rfl rfl rfl (rd_move rfl) ?_
  refine ws_callp rfl rfl rfl rfl rfl (En.go) (fun w hp hn ho => cutoff_ret p m 20261 w (hp.mono (by simp))) ?_
  refine ws_r rfl rfl rfl rfl (rd_cmp_t rfl rfl rfl (by decide)) ?_
  refine ws_r rfl rfl rfl rfl (rd_pick_t rfl rfl) ?_
  refine ws_r rfl rfl rfl rfl (rd_move rfl) ?_
  refine ws_r rfl rfl rfl rfl (rd_move rfl) ?_
  refine ws_r rfl rfl rfl rfl (rd_cmp_t rfl rfl rfl (by decide)) ?_
  refine ws_r rfl rfl rfl rfl (rd_pick_t rfl rfl) ?_
  refine ws_r rfl rfl rfl rfl (rd_move rfl) ?_
  refine ws_r rfl rfl rfl rfl (rd_move rfl) ?_
  refine ws_r rfl rfl rfl rfl (rd_cmp_t rfl rfl rfl (by decide)) ?_
  refine ws_r rfl rfl rfl rfl (rd_pick_t rfl rfl) ?_
  refine ws_r rfl rfl rfl rfl (rd_move rfl) ?_
  refine ws_r rfl rfl rfl rfl (rd_move rfl) ?_
  refine ws_r rfl rfl rfl rfl (rd_cmp_t rfl rfl rfl (by decide)) ?_
  refine ws_r rfl rfl rfl rfl (rd_pick_t rfl rfl) ?_
  refine ws_r rfl rfl rfl rfl (rd_move rfl) ?_
  refine ws_r rfl rfl rfl rfl (rd_move rfl) ?_
  refine ws_r rfl rfl rfl rfl (rd_cmp_t rfl rfl rfl (by decide)) ?_
  refine ws_r rfl rfl rfl rfl (rd_pick_t rfl rfl) ?_
  refine ws_r rfl rfl rfl rfl (rd_move rfl) ?_
  refine ws_r rfl rfl rfl rfl (rd_move rfl) ?_
  refine ws_r rfl rfl rfl rfl (rd_cmp_t rfl rfl rfl (by decide)) ?_
  refine ws_r rfl rfl rfl rfl (rd_pick_t rfl rfl) ?_
  refine ws_r rfl rfl rfl rfl (rd_move rfl) ?_
  refine ws_r rfl rfl rfl rfl (rd_move rfl) ?_
  refine ws_r rfl rfl rfl rfl (rd_cmp_t rfl rfl rfl (by decide)) ?_
  refine ws_r rfl rfl rfl rfl (rd_pick_t rfl rfl) ?_
  refine ws_r rfl rfl rfl rfl (rd_move rfl) ?_
  refine ws_r rfl rfl rfl rfl (rd_move rfl) ?_
  refine ws_r rfl rfl rfl rfl (rd_cmp_t rfl rfl rfl (by decide)) ?_
  refine ws_r rfl rfl rfl rfl (rd_pick_t rfl rfl) ?_
  refine ws_r rfl rfl rfl rfl (rd_move rfl) ?_
  refine ws_r rfl rfl rfl rfl (rd_move rfl) ?_
  refine ws_r rfl rfl rfl rfl ((rd_lenO hown2 rfl Try.underlying46 : Rd _ _ _ _ (I 1))) ?_
  refine ws_r rfl rfl rfl rfl (rd_cmp_t rfl rfl rfl (by decide)) ?_
  refine ws_r rfl rfl rfl rfl (rd_pick_t rfl rfl) ?_
  refine ws_r rfl rfl rfl rfl (rd_move rfl) ?_
  refine ws_r rfl rfl rfl rfl (rd_move rfl) ?_
  obtain ⟨gq, capq, curq, rfl, rfl, hgq, hcapq, hcurq⟩ := OwnR.opened hown2 (by simp)
  have hrdq := reads_rowid27 (at_rowid (k := 0) (y := kx) hcurq rfl)
  refine ws_r rfl rfl rfl rfl (rd_ix (j := 0) rfl rfl Try.underlying46 Try.sizeOf27 (by simp)) ?_
  refine ws_r rfl rfl rfl rfl (rd_load rfl) ?_
  refine ws_r rfl rfl rfl rfl (rd_load rfl) ?_
  refine ws_rp _ rfl rfl rfl rfl (rd_eqid rfl rfl Try.underlying27 (by kernel_rfl)) ?_ ?_
  · intro h88
    refine ws_r rfl rfl rfl rfl (rd_pick_t rfl rfl) ?_
    refine ws_r rfl rfl rfl rfl (rd_move rfl) ?_
    refine ws_r rfl rfl rfl rfl (rd_move rfl) ?_
    refine ws_callp rfl rfl rfl rfl rfl (En.go) (fun w hp hn ho => len_ret p m 20261 es3 cl1 [] hL3 hne (by simp) w (hp.mono (by simp))) ?_
    refine ws_r rfl rfl rfl rfl (rd_cmp_t rfl rfl rfl (by decide)) ?_
    refine ws_r rfl rfl rfl rfl (rd_pick_t rfl rfl) ?_
    refine ws_late rfl ?_
    refine ws_l rfl rfl rfl rfl (rd_assign rfl) ?_
    refine ws_nil ?_
    refine qe_then ?_
    refine wc_keep [(0, _)] rfl ?_
    refine wc_ret ?_
    refine qe_body _ (.inl rfl) (res1 rfl (RV.tmp rfl)) ?_
    exact ret_end fun w hp hn ho => rfl
  · intro h88; exact absurd rfl h88
set_option maxRecDepth 100000 in
set_option maxHeartbeats 1000000 in
theorem checks_ret (x : Ent) (w : World) : Ret Try.prog 3 [entK x] w [] (fun v _ => v = .bool true) := by
  refine enter (n := 12) (args := [entK x]) [] [] Try.func3 rfl rfl rfl (HpOK.nil w) (by simp) ?_
  refine wc_seq ?_
  refine wc_plain [(0, .x true), (1, .x true)] (by kernel_rfl) ?_
  refine ws_box rfl rfl rfl rfl ?_
  intro b1 hb1
  refine ws_l rfl rfl rfl rfl (rd_assign rfl) ?_
  refine ws_nil ?_
  refine qe_then ?_
  refine wc_seq ?_
  refine wc_drawn mixedT _ (fun _ h => h) [(0, .x false), (1, .r), (2, .r), (5, .r), (3, .x false), (4, .x false), (6, .x true), (7, .x true), (8, .x true), (9, .x true)] (by kernel_rfl) ?_
  refine ws_callp rfl rfl rfl rfl rfl (En.go) (fun w hp hn ho => known_ret w) ?_
  refine ws_r rfl rfl rfl rfl (rd_move rfl) ?_
  refine ws_r rfl rfl rfl rfl (rd_load rfl) ?_
  refine ws_r rfl rfl rfl rfl (rd_load rfl) ?_
  refine ws_callp rfl rfl rfl rfl rfl (En.go) (fun w hp hn ho => to_ret _ w) ?_
  refine ws_callp rfl rfl rfl rfl rfl (En.go) (fun w hp hn ho => check_ret _ w) ?_
  refine ws_late rfl ?_
  refine ws_callp rfl rfl rfl rfl rfl (En.go) (fun w hp hn ho => check_ref _ w) ?_
  refine ws_l rfl rfl rfl rfl (rd_cmp_t rfl rfl rfl (by simp only [cmpP])) ?_
  refine ws_l rfl rfl rfl rfl (rd_pick_t rfl rfl) ?_
  refine ws_l rfl rfl rfl rfl (rd_assign rfl) ?_
  refine ws_nil ?_
  refine qe_then ?_
  refine wc_keep [(2, _)] rfl ?_
  refine wc_ret ?_
  refine qe_body _ (.inl rfl) (res1 rfl (RV.tmp rfl)) ?_
  exact ret_end fun w hp hn ho => rfl
set_option maxRecDepth 100000 in
set_option maxHeartbeats 1000000 in
theorem judges_ret (vl : Value) (νl : Heap) (ops : List POp) (hsrc : Src νl vl 37 ops.length (ops.flatMap opL)) (id : Id) (date now : Int) (perm : Bool) (w : World) (hνl : HpOK νl w) (hndl : (νl.map Prod.fst).Nodup) : Ret Try.prog 4 [vl, idK id, I date, I now, .bool perm] w [] (fun v _ => v = .bool true) := by
  refine enter (n := 41) (args := [vl, idK id, I date, I now, .bool perm]) [] νl Try.func4 rfl rfl rfl hνl hndl ?_
  refine wc_seq ?_
  refine wc_plain [(0, .x true), (1, .x true)] (by kernel_rfl) ?_
  refine ws_box rfl rfl rfl rfl ?_
  intro b6 hb6
  refine ws_l rfl rfl rfl rfl (rd_assign rfl) ?_
  refine ws_nil ?_
  refine qe_then ?_
  refine wc_seq ?_
  refine wc_seq ?_
  refine wc_plain [(0, .x true), (1, .x true)] (by kernel_rfl) ?_
  refine ws_callp rfl rfl rfl rfl rfl (En.go) (fun w hp hn ho => known_ret w) ?_
  refine ws_l rfl rfl rfl rfl (rd_not rfl) ?_
  refine ws_nil ?_
  refine qe_then ?_
  refine wc_false rfl ?_
  refine wc_skip ?_
  refine qe_then ?_
  refine wc_seq ?_
  refine wc_plain [(0, .x true), (1, .x true), (2, .x true), (3, .x true), (4, .x true), (5, .x true), (6, .x true), (7, .x true), (8, .x true), (9, .x true), (10, .x true)] (by kernel_rfl) ?_
  refine ws_l rfl rfl rfl rfl (rd_move rfl) ?_
  refine ws_call rfl rfl rfl rfl rfl (En.go) (fun w hp hn ho => play_ret vl νl ops hsrc w (hp.mono (by intro q hq; simp [hq])) hndl) (fun _ h => by cases h) (fun hh q h => by first | (cases h; done) | exact hh q h) ?_
  rintro v19 wa wb hpo hon hon2 hp1 ⟨p, m, cut, es, clock, L, rows, vr, νr, rfl, hp0, hm0, hh, hhn, hL, hrel, hrl, hcut, hown, hchk⟩
  refine ⟨histC p m cut es clock νr, hh, hhn, fun b hb => .inl (by simp at hb; rcases hb with rfl | rfl | hb; exact hp0; exact hm0; exact hown.far b (by simpa using hb)), ?_⟩
  replace hp0 := Nat.le_trans hon.size hp0
  replace hm0 := Nat.le_trans hon.size hm0
  replace hown := hown.mono hon.size
  have hne : p ≠ m := by simp at hhn; omega
  simp only [histC, List.cons_append]
  refine ws_l rfl rfl rfl rfl (rd_move rfl) ?_
  refine ws_l rfl rfl rfl rfl (rd_extract rfl) ?_
  refine ws_l rfl rfl rfl rfl (rd_extract rfl) ?_
  refine ws_l rfl rfl rfl rfl (rd_extract rfl) ?_
  refine ws_l rfl rfl rfl rfl (rd_extract rfl) ?_
  refine ws_l rfl rfl rfl rfl (rd_assign rfl) ?_
  refine ws_l rfl rfl rfl rfl (rd_assign rfl) ?_
  refine ws_l rfl rfl rfl rfl (rd_assign rfl) ?_
  refine ws_l rfl rfl rfl rfl (rd_assign rfl) ?_
  refine ws_nil ?_
  refine qe_then ?_
  refine wc_keep [(2, _), (3, _), (4, _), (6, _), (10, _), (11, _), (12, _), (13, _), (14, _)] rfl ?_
  refine wc_seq ?_
  refine wc_drawn mixedT _ (fun _ h => h) [(0, .r), (1, .r), (2, .r), (3, .r), (4, .r), (5, .r), (6, .r), (8, .r), (9, .r), (10, .r), (11, .r), (12, .r), (13, .r), (7, .x false), (14, .x true), (15, .x true), (16, .x true), (17, .x true)] (by kernel_rfl) ?_
  refine ws_r rfl rfl rfl rfl (rd_move rfl) ?_
  refine ws_r rfl rfl rfl rfl (rd_move rfl) ?_
  refine ws_r rfl rfl rfl rfl (rd_move rfl) ?_
  refine ws_r rfl rfl rfl rfl (rd_load rfl) ?_
  refine ws_r rfl rfl rfl rfl (rd_move rfl) ?_
  refine ws_r rfl rfl rfl rfl (rd_move rfl) ?_
  refine ws_r rfl rfl rfl rfl (rd_move rfl) ?_
  refine ws_r rfl rfl rfl rfl (rd_move rfl) ?_
  refine ws_r rfl rfl rfl rfl (rd_move rfl) ?_
  refine ws_r rfl rfl rfl rfl (rd_load rfl) ?_
  refine ws_r rfl rfl rfl rfl (rd_move rfl) ?_
  refine ws_r rfl rfl rfl rfl (rd_move rfl) ?_
  refine ws_r rfl rfl rfl rfl (rd_move rfl) ?_
  refine ws_callp rfl rfl rfl rfl rfl (En.go) (fun w hp hn ho => judge_ret p m cut es clock L hL hne hcut id date now perm w (hp.mono (by simp))) ?_
  refine ws_late rfl ?_
  refine ws_callp rfl rfl rfl rfl rfl (En.go) (fun w hp hn ho => judge_ref vr νr rows (hown.mono (Nat.zero_le _)) (by omega) (fun _ _ => trivial) cut hcut id date now perm w (hp.mono (by intro q hq; simp [hq])) hown.nd) ?_
  refine ws_l rfl rfl rfl rfl (rd_cmp_t rfl rfl rfl (by simp only [cmpP]; rw [hrel.isSome])) ?_
  refine ws_l rfl rfl rfl rfl (rd_pick_t rfl rfl) ?_
  refine ws_l rfl rfl rfl rfl (rd_assign rfl) ?_
  refine ws_nil ?_
  refine qe_then ?_
  refine wc_keep [(10, _)] rfl ?_
  refine wc_ret ?_
  refine qe_body _ (.inl rfl) (res1 rfl (RV.tmp rfl)) ?_
  exact ret_end fun w hp hn ho => rfl

end Go.Proofs.Ytegjmmjjchpeoaa
