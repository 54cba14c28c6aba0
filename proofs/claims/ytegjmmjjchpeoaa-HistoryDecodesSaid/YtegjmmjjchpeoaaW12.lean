/- Walks: a nil history, HistoryNil. No conditions. -/
import Derived.Test.YtegjmmjjchpeoaaW11
namespace Go.Proofs.Ytegjmmjjchpeoaa
open Go Go.RowKit Go.Sx
set_option linter.unusedSimpArgs false
set_option linter.unusedVariables false

instance : Builds Try.prog 29 [] (entC ent0) :=
  Builds.struct inferInstance Try.underlying29 (by kernel_rfl) #[(0, 32), (32, 1), (33, 1), (34, 1), (35, 1)] (by kernel_rfl) [] rfl (by simp) rfl
set_option maxRecDepth 100000 in
set_option maxHeartbeats 1000000 in
theorem get_nil (id : Id) (w : World) : Ret Try.prog 35 [.pointer none, idK id] w [] (fun v _ => v = .tuple #[entK ent0, .bool false]) := by
  refine enter (n := 22) (args := [.pointer none, idK id]) [] [] Try.func35 rfl rfl rfl (HpOK.nil w) (by simp) ?_
  refine wc_seq ?_
  refine wc_plain [(0, .x true), (1, .x true), (2, .x true)] (by kernel_rfl) ?_
  refine ws_box rfl rfl rfl rfl ?_
  intro b3 hb3
  refine ws_alloc rfl rfl rfl ?_
  intro b4 hb4
  refine ws_l rfl rfl rfl rfl (rd_assign rfl) ?_
  refine ws_nil ?_
  refine qe_then ?_
  refine wc_seq ?_
  refine wc_seq ?_
  refine wc_plain [(0, .x true), (1, .x true)] (by kernel_rfl) ?_
  refine ws_l rfl rfl rfl rfl (rd_move rfl) ?_
  refine ws_l rfl rfl rfl rfl (rd_nil_nil rfl rfl Try.underlying35 rfl) ?_
  refine ws_nil ?_
  refine qe_then ?_
  refine wc_true rfl ?_
  refine wc_seq ?_
  refine wc_plain [(0, .x true), (1, .x true), (2, .x true)] (by kernel_rfl) ?_
  refine ws_l rfl rfl rfl rfl (rd_build rfl) ?_
  refine ws_store rfl rfl rfl rfl (by first | exact .inl (by assumption) | exact .inr (by simp)) (fun _ h _ => by first | (cases h; done) | exact List.mem_cons_of_mem _ h | exact List.mem_cons_of_mem _ (List.mem_cons_of_mem _ h) | (simp at h ⊢; simp [h])) ?_
  refine ws_l rfl rfl rfl rfl (rd_assign rfl) ?_
  refine ws_nil ?_
  refine qe_then ?_
  refine wc_ret ?_
  refine qe_then_ret ?_
  refine qe_body _ (.inl rfl) (res2 rfl (RV.cell rfl) (RV.tmp rfl)) ?_
  exact ret_end fun w hp hn ho => rfl
set_option maxRecDepth 100000 in
set_option maxHeartbeats 1000000 in
theorem add_nil (x : Ent) (w : World) : Ret Try.prog 19 [.pointer none, entK x] w [] (fun v _ => v = I 1) := by
  refine enter (n := 39) (args := [.pointer none, entK x]) [] [] Try.func19 rfl rfl rfl (HpOK.nil w) (by simp) ?_
  refine wc_seq ?_
  refine wc_plain [(0, .x true), (1, .x true)] (by kernel_rfl) ?_
  refine ws_box rfl rfl rfl rfl ?_
  intro b3 hb3
  refine ws_l rfl rfl rfl rfl (rd_assign rfl) ?_
  refine ws_nil ?_
  refine qe_then ?_
  refine wc_seq ?_
  refine wc_seq ?_
  refine wc_plain [(0, .x true), (1, .x true)] (by kernel_rfl) ?_
  refine ws_l rfl rfl rfl rfl (rd_move rfl) ?_
  refine ws_l rfl rfl rfl rfl (rd_nil_nil rfl rfl Try.underlying35 rfl) ?_
  refine ws_nil ?_
  refine qe_then ?_
  refine wc_true rfl ?_
  refine wc_seq ?_
  refine wc_plain [(0, .x true)] (by kernel_rfl) ?_
  refine ws_l rfl rfl rfl rfl (rd_assign rfl) ?_
  refine ws_nil ?_
  refine qe_then ?_
  refine wc_ret ?_
  refine qe_then_ret ?_
  refine qe_body _ (.inl rfl) (res1 rfl (RV.tmp rfl)) ?_
  exact ret_end fun w hp hn ho => rfl
set_option maxRecDepth 100000 in
set_option maxHeartbeats 1000000 in
theorem judge_nil (id : Id) (d n : Int) (p : Bool) (w : World) : Ret Try.prog 17 [.pointer none, idK id, I d, I n, .bool p] w [] (fun v _ => v = I 1) := by
  refine enter (n := 53) (args := [.pointer none, idK id, I d, I n, .bool p]) [] [] Try.func17 rfl rfl rfl (HpOK.nil w) (by simp) ?_
  refine wc_seq ?_
  refine wc_plain [(0, .x true), (1, .x true)] (by kernel_rfl) ?_
  refine ws_box rfl rfl rfl rfl ?_
  intro b6 hb6
  refine ws_l rfl rfl rfl rfl (rd_assign rfl) ?_
  refine ws_nil ?_
  refine qe_then ?_
  refine wc_seq ?_
  refine wc_seq ?_
  refine wc_plain [(0, .x true), (1, .x true)] (by kernel_rfl) ?_
  refine ws_l rfl rfl rfl rfl (rd_move rfl) ?_
  refine ws_l rfl rfl rfl rfl (rd_nil_nil rfl rfl Try.underlying35 rfl) ?_
  refine ws_nil ?_
  refine qe_then ?_
  refine wc_true rfl ?_
  refine wc_seq ?_
  refine wc_plain [(0, .x true)] (by kernel_rfl) ?_
  refine ws_l rfl rfl rfl rfl (rd_assign rfl) ?_
  refine ws_nil ?_
  refine qe_then ?_
  refine wc_ret ?_
  refine qe_then_ret ?_
  refine qe_body _ (.inl rfl) (res1 rfl (RV.tmp rfl)) ?_
  exact ret_end fun w hp hn ho => rfl
set_option maxRecDepth 100000 in
set_option maxHeartbeats 1000000 in
theorem gone_nil (id : Id) (w : World) : Ret Try.prog 20 [.pointer none, idK id] w [] (fun v _ => v = I 1) := by
  refine enter (n := 32) (args := [.pointer none, idK id]) [] [] Try.func20 rfl rfl rfl (HpOK.nil w) (by simp) ?_
  refine wc_seq ?_
  refine wc_plain [(0, .x true), (1, .x true)] (by kernel_rfl) ?_
  refine ws_box rfl rfl rfl rfl ?_
  intro b3 hb3
  refine ws_l rfl rfl rfl rfl (rd_assign rfl) ?_
  refine ws_nil ?_
  refine qe_then ?_
  refine wc_seq ?_
  refine wc_seq ?_
  refine wc_plain [(0, .x true), (1, .x true)] (by kernel_rfl) ?_
  refine ws_l rfl rfl rfl rfl (rd_move rfl) ?_
  refine ws_l rfl rfl rfl rfl (rd_nil_nil rfl rfl Try.underlying35 rfl) ?_
  refine ws_nil ?_
  refine qe_then ?_
  refine wc_true rfl ?_
  refine wc_seq ?_
  refine wc_plain [(0, .x true)] (by kernel_rfl) ?_
  refine ws_l rfl rfl rfl rfl (rd_assign rfl) ?_
  refine ws_nil ?_
  refine qe_then ?_
  refine wc_ret ?_
  refine qe_then_ret ?_
  refine qe_body _ (.inl rfl) (res1 rfl (RV.tmp rfl)) ?_
  exact ret_end fun w hp hn ho => rfl
set_option maxRecDepth 100000 in
set_option maxHeartbeats 1000000 in
theorem forget_nil (now : Int) (w : World) : Ret Try.prog 21 [.pointer none, I now] w [] (fun v _ => v = .slice none 0 0) := by
  refine enter (n := 41) (args := [.pointer none, I now]) [] [] Try.func21 rfl rfl rfl (HpOK.nil w) (by simp) ?_
  refine wc_seq ?_
  refine wc_plain [(0, .x true), (1, .x true)] (by kernel_rfl) ?_
  refine ws_box rfl rfl rfl rfl ?_
  intro b3 hb3
  refine ws_l rfl rfl rfl rfl (rd_assign rfl) ?_
  refine ws_nil ?_
  refine qe_then ?_
  refine wc_seq ?_
  refine wc_seq ?_
  refine wc_plain [(0, .x true), (1, .x true), (2, .x true)] (by kernel_rfl) ?_
  refine ws_l rfl rfl rfl rfl (rd_load rfl) ?_
  refine ws_callb (minuteB _) rfl rfl rfl rfl rfl (En.go) (fun w hp hn ho => minute_ret _ w) ?_ ?_
  · intro h9
    have hb9 := minuteB_bounds h9
    refine ws_l rfl rfl rfl rfl (rd_not rfl) ?_
    refine ws_nil ?_
    refine qe_then ?_
    refine wc_false rfl ?_
    refine wc_skip ?_
    refine qe_then ?_
    refine wc_seq ?_
    refine wc_plain [(0, .x true)] (by kernel_rfl) ?_
    refine ws_l rfl rfl rfl rfl (rd_assign rfl) ?_
    refine ws_nil ?_
    refine qe_then ?_
    refine wc_seq ?_
    refine wc_seq ?_
    refine wc_plain [(0, .x true), (1, .x true), (2, .x true), (3, .x true), (4, .x true)] (by kernel_rfl) ?_
    refine ws_l rfl rfl rfl rfl (rd_move rfl) ?_
    refine ws_l rfl rfl rfl rfl (rd_mkfunc rfl rfl) ?_
    refine ws_callp rfl rfl rfl rfl rfl (En.go) (fun w hp hn ho => sorted_nil _ _ w) ?_
    refine ws_l rfl rfl rfl rfl (rd_len rfl Try.underlying54) ?_
    refine ws_l rfl rfl rfl rfl (rd_move rfl) ?_
    refine ws_nil ?_
    refine qe_then ?_
    refine wc_keep [(0, _), (3, _), (4, _), (5, _), (13, _), (14, _), (15, _)] rfl ?_
    refine wc_block ?_
    refine wc_loop (fun mz ac w1 => ∃ (z : Unit), mz = 0 ∧ St 41 w [] [(5, .slice none 0 0), (14, I ((0 : Nat) : Int)), (15, I 0)] ([] : Heap) ac w1) _ (fun ac w1 hs => ⟨(), rfl, st_sub hs _ rfl⟩) ?_
    rintro _ ac1 wl1 ⟨z, rfl, hs1⟩
    refine wc_at hs1 ?_
    refine wc_seq ?_
    refine wc_plain [(0, .x true)] (by kernel_rfl) ?_
    refine ws_l rfl rfl rfl rfl (rd_cmp_f rfl rfl rfl (by simp [cmpP])) ?_
    refine ws_nil ?_
    refine qe_then ?_
    refine wc_seq ?_
    refine wc_false rfl ?_
    refine wc_exit ?_
    refine qe_then_exit ?_
    refine qe_then_exit ?_
    refine qe_block_exit ?_
    refine qe_then ?_
    refine wc_seq ?_
    refine wc_plain [(0, .x true), (1, .x true)] (by kernel_rfl) ?_
    refine ws_l rfl rfl rfl rfl (rd_move rfl) ?_
    refine ws_l rfl rfl rfl rfl (rd_assign rfl) ?_
    refine ws_nil ?_
    refine qe_then ?_
    refine wc_keep [(4, _)] rfl ?_
    refine wc_ret ?_
    refine qe_body _ (.inl rfl) (res1 rfl (RV.tmp rfl)) ?_
    exact ret_end fun w hp hn ho => rfl
  · intro h9
    refine ws_l rfl rfl rfl rfl (rd_not rfl) ?_
    refine ws_nil ?_
    refine qe_then ?_
    refine wc_true rfl ?_
    refine wc_seq ?_
    refine wc_plain [(0, .x true)] (by kernel_rfl) ?_
    refine ws_l rfl rfl rfl rfl (rd_assign rfl) ?_
    refine ws_nil ?_
    refine qe_then ?_
    refine wc_ret ?_
    refine qe_then_ret ?_
    refine qe_body _ (.inl rfl) (res1 rfl (RV.tmp rfl)) ?_
    exact ret_end fun w hp hn ho => rfl
set_option maxRecDepth 100000 in
set_option maxHeartbeats 1000000 in
theorem since_nil (now : Int) (w : World) : Ret Try.prog 24 [.pointer none, I now] w [] (fun v _ => v = .slice none 0 0) := by
  refine enter (n := 8) (args := [.pointer none, I now]) [] [] Try.func24 rfl rfl rfl (HpOK.nil w) (by simp) ?_
  refine wc_seq ?_
  refine wc_plain [(0, .x true), (1, .x true)] (by kernel_rfl) ?_
  refine ws_box rfl rfl rfl rfl ?_
  intro b3 hb3
  refine ws_l rfl rfl rfl rfl (rd_assign rfl) ?_
  refine ws_nil ?_
  refine qe_then ?_
  refine wc_seq ?_
  refine wc_plain [(0, .x true), (1, .x true), (2, .x true), (3, .x true)] (by kernel_rfl) ?_
  refine ws_l rfl rfl rfl rfl (rd_move rfl) ?_
  refine ws_l rfl rfl rfl rfl (rd_mkfunc rfl rfl) ?_
  refine ws_callp rfl rfl rfl rfl rfl (En.go) (fun w hp hn ho => sorted_nil _ _ w) ?_
  refine ws_l rfl rfl rfl rfl (rd_assign rfl) ?_
  refine ws_nil ?_
  refine qe_then ?_
  refine wc_keep [(4, _)] rfl ?_
  refine wc_ret ?_
  refine qe_body _ (.inl rfl) (res1 rfl (RV.tmp rfl)) ?_
  exact ret_end fun w hp hn ho => rfl
set_option maxRecDepth 100000 in
set_option maxHeartbeats 1000000 in
theorem len_nil (w : World) : Ret Try.prog 36 [.pointer none] w [] (fun v _ => v = I 0) := by
  refine enter (n := 6) (args := [.pointer none]) [] [] Try.func36 rfl rfl rfl (HpOK.nil w) (by simp) ?_
  refine wc_seq ?_
  refine wc_plain [(0, .x true)] (by kernel_rfl) ?_
  refine ws_l rfl rfl rfl rfl (rd_assign rfl) ?_
  refine ws_nil ?_
  refine qe_then ?_
  refine wc_seq ?_
  refine wc_plain [(0, .x true), (1, .x true), (2, .x true), (3, .x true)] (by kernel_rfl) ?_
  refine ws_l rfl rfl rfl rfl (rd_move rfl) ?_
  refine ws_callp rfl rfl rfl rfl rfl (En.go) (fun w hp hn ho => sorted_nil _ _ w) ?_
  refine ws_l rfl rfl rfl rfl (rd_len rfl Try.underlying54) ?_
  refine ws_l rfl rfl rfl rfl (rd_assign rfl) ?_
  refine ws_nil ?_
  refine qe_then ?_
  refine wc_ret ?_
  refine qe_body _ (.inl rfl) (res1 rfl (RV.tmp rfl)) ?_
  exact ret_end fun w hp hn ho => rfl
set_option maxRecDepth 100000 in
set_option maxHeartbeats 1000000 in
theorem count_nil (s : Int) (w : World) : Ret Try.prog 37 [.pointer none, I s] w [] (fun v _ => v = I 0) := by
  refine enter (n := 9) (args := [.pointer none, I s]) [] [] Try.func37 rfl rfl rfl (HpOK.nil w) (by simp) ?_
  refine wc_seq ?_
  refine wc_plain [(0, .x true), (1, .x true)] (by kernel_rfl) ?_
  refine ws_box rfl rfl rfl rfl ?_
  intro b3 hb3
  refine ws_l rfl rfl rfl rfl (rd_assign rfl) ?_
  refine ws_nil ?_
  refine qe_then ?_
  refine wc_seq ?_
  refine wc_plain [(0, .x true), (1, .x true), (2, .x true), (3, .x true), (4, .x true)] (by kernel_rfl) ?_
  refine ws_l rfl rfl rfl rfl (rd_move rfl) ?_
  refine ws_l rfl rfl rfl rfl (rd_mkfunc rfl rfl) ?_
  refine ws_callp rfl rfl rfl rfl rfl (En.go) (fun w hp hn ho => sorted_nil _ _ w) ?_
  refine ws_l rfl rfl rfl rfl (rd_len rfl Try.underlying54) ?_
  refine ws_l rfl rfl rfl rfl (rd_assign rfl) ?_
  refine ws_nil ?_
  refine qe_then ?_
  refine wc_keep [(4, _)] rfl ?_
  refine wc_ret ?_
  refine qe_body _ (.inl rfl) (res1 rfl (RV.tmp rfl)) ?_
  exact ret_end fun w hp hn ho => rfl
set_option maxRecDepth 100000 in
set_option maxHeartbeats 1000000 in
theorem encode_nil (w : World) : Ret Try.prog 33 [.pointer none] w [] (fun v _ => v = .slice none 0 0) := by
  refine enterM (n := 46) (args := [.pointer none]) [] [] Try.func33 rfl rfl rfl (HpOK.nil w) (by simp) ?_
  refine wc_seq ?_
  refine wc_plain [(0, .x true)] (by kernel_rfl) ?_
  refine ws_l rfl rfl rfl rfl (rd_assign rfl) ?_
  refine ws_nil ?_
  refine qe_then ?_
  refine wc_seq ?_
  refine wc_seq ?_
  refine wc_plain [(0, .x true), (1, .x true)] (by kernel_rfl) ?_
  refine ws_l rfl rfl rfl rfl (rd_move rfl) ?_
  refine ws_l rfl rfl rfl rfl (rd_nil_nil rfl rfl Try.underlying35 rfl) ?_
  refine ws_nil ?_
  refine qe_then ?_
  refine wc_true rfl ?_
  refine wc_seq ?_
  refine wc_plain [(0, .x true)] (by kernel_rfl) ?_
  refine ws_l rfl rfl rfl rfl (rd_assign rfl) ?_
  refine ws_nil ?_
  refine qe_then ?_
  refine wc_ret ?_
  refine qe_then_ret ?_
  refine qe_bodyM0 _ (.inl rfl) (res1 rfl (RV.tmp rfl)) ?_
  exact ret_end fun w hp hn ho => rfl
set_option maxRecDepth 100000 in
set_option maxHeartbeats 1000000 in
theorem cutoff_nil (w : World) : Ret Try.prog 30 [.pointer none] w [] (fun v _ => v = I 0) := by
  refine enter (n := 9) (args := [.pointer none]) [] [] Try.func30 rfl rfl rfl (HpOK.nil w) (by simp) ?_
  refine wc_seq ?_
  refine wc_plain [(0, .x true)] (by kernel_rfl) ?_
  refine ws_l rfl rfl rfl rfl (rd_assign rfl) ?_
  refine ws_nil ?_
  refine qe_then ?_
  refine wc_seq ?_
  refine wc_seq ?_
  refine wc_plain [(0, .x true), (1, .x true)] (by kernel_rfl) ?_
  refine ws_l rfl rfl rfl rfl (rd_move rfl) ?_
  refine ws_l rfl rfl rfl rfl (rd_nil_nil rfl rfl Try.underlying35 rfl) ?_
  refine ws_nil ?_
  refine qe_then ?_
  refine wc_true rfl ?_
  refine wc_seq ?_
  refine wc_plain [(0, .x true)] (by kernel_rfl) ?_
  refine ws_l rfl rfl rfl rfl (rd_assign rfl) ?_
  refine ws_nil ?_
  refine qe_then ?_
  refine wc_ret ?_
  refine qe_then_ret ?_
  refine qe_body _ (.inl rfl) (res1 rfl (RV.tmp rfl)) ?_
  exact ret_end fun w hp hn ho => rfl
set_option maxRecDepth 100000 in
set_option maxHeartbeats 1000000 in
theorem clone_nil (w : World) : Ret Try.prog 28 [.pointer none] w [] (fun v _ => v = .pointer none) := by
  refine enter (n := 16) (args := [.pointer none]) [] [] Try.func28 rfl rfl rfl (HpOK.nil w) (by simp) ?_
  refine wc_seq ?_
  refine wc_plain [(0, .x true)] (by kernel_rfl) ?_
  refine ws_l rfl rfl rfl rfl (rd_assign rfl) ?_
  refine ws_nil ?_
  refine qe_then ?_
  refine wc_seq ?_
  refine wc_seq ?_
  refine wc_plain [(0, .x true), (1, .x true)] (by kernel_rfl) ?_
  refine ws_l rfl rfl rfl rfl (rd_move rfl) ?_
  refine ws_l rfl rfl rfl rfl (rd_nil_nil rfl rfl Try.underlying35 rfl) ?_
  refine ws_nil ?_
  refine qe_then ?_
  refine wc_true rfl ?_
  refine wc_seq ?_
  refine wc_plain [(0, .x true)] (by kernel_rfl) ?_
  refine ws_l rfl rfl rfl rfl (rd_assign rfl) ?_
  refine ws_nil ?_
  refine qe_then ?_
  refine wc_ret ?_
  refine qe_then_ret ?_
  refine qe_body _ (.inl rfl) (res1 rfl (RV.tmp rfl)) ?_
  exact ret_end fun w hp hn ho => rfl
set_option maxRecDepth 100000 in
set_option maxHeartbeats 1000000 in
theorem equal_nil (w : World) : Ret Try.prog 27 [.pointer none, .pointer none] w [] (fun v _ => v = .bool true) := by
  refine enter (n := 34) (args := [.pointer none, .pointer none]) [] [] Try.func27 rfl rfl rfl (HpOK.nil w) (by simp) ?_
  refine wc_seq ?_
  refine wc_plain [(0, .x true)] (by kernel_rfl) ?_
  refine ws_l rfl rfl rfl rfl (rd_assign rfl) ?_
  refine ws_nil ?_
  refine qe_then ?_
  refine wc_seq ?_
  refine wc_seq ?_
  refine wc_plain [(0, .x true), (1, .x true), (2, .x true), (3, .x true), (4, .x true), (5, .x true)] (by kernel_rfl) ?_
  refine ws_l rfl rfl rfl rfl (rd_move rfl) ?_
  refine ws_l rfl rfl rfl rfl (rd_nil_nil rfl rfl Try.underlying35 rfl) ?_
  refine ws_l rfl rfl rfl rfl (rd_move rfl) ?_
  refine ws_xskip rfl rfl rfl rfl ?_
  refine ws_xskip rfl rfl rfl rfl ?_
  refine ws_l rfl rfl rfl rfl (rd_pick_t rfl rfl) ?_
  refine ws_nil ?_
  refine qe_then ?_
  refine wc_keep [(0, _), (1, _), (4, _), (10, _)] rfl ?_
  refine wc_true rfl ?_
  refine wc_seq ?_
  refine wc_plain [(0, .x true), (1, .x true), (2, .x true), (3, .x true)] (by kernel_rfl) ?_
  refine ws_l rfl rfl rfl rfl (rd_move rfl) ?_
  refine ws_l rfl rfl rfl rfl (rd_move rfl) ?_
  refine ws_l rfl rfl rfl rfl (rd_nil_nil rfl rfl Try.underlying35 rfl) ?_
  refine ws_l rfl rfl rfl rfl (rd_assign rfl) ?_
  refine ws_nil ?_
  refine qe_then ?_
  refine wc_ret ?_
  refine qe_then_ret ?_
  refine qe_body _ (.inl rfl) (res1 rfl (RV.tmp rfl)) ?_
  exact ret_end fun w hp hn ho => rfl
set_option maxRecDepth 100000 in
set_option maxHeartbeats 1000000 in
theorem hnil_ret (x : Ent) (now : Int) (w : World) : Ret Try.prog 11 [entK x, I now] w [] (fun v _ => v = .bool true) := by
  refine enterM (n := 97) (args := [entK x, I now]) [] [] Try.func11 rfl rfl rfl (HpOK.nil w) (by simp) ?_
  refine wc_seq ?_
  refine wc_plain [(0, .x true), (1, .x true)] (by kernel_rfl) ?_
  refine ws_box rfl rfl rfl rfl ?_
  intro b2 hb2
  refine ws_l rfl rfl rfl rfl (rd_assign rfl) ?_
  refine ws_nil ?_
  refine qe_then ?_
  refine wc_seq ?_
  refine wc_seq ?_
  refine wc_plain [(0, .x true), (1, .x true)] (by kernel_rfl) ?_
  refine ws_callp rfl rfl rfl rfl rfl (En.go) (fun w hp hn ho => known_ret w) ?_
  refine ws_l rfl rfl rfl rfl (rd_not rfl) ?_
  refine ws_nil ?_
  refine qe_then ?_
  refine wc_false rfl ?_
  refine wc_skip ?_
  refine qe_then ?_
  refine wc_seq ?_
  refine wc_plain [(0, .x true)] (by kernel_rfl) ?_
  refine ws_l rfl rfl rfl rfl (rd_assign rfl) ?_
  refine ws_nil ?_
  refine qe_then ?_
  refine wc_seq ?_
  refine wc_plain [(0, .x true), (1, .x true)] (by kernel_rfl) ?_
  refine ws_alloc rfl rfl rfl ?_
  intro b6 hb6
  refine ws_store rfl rfl rfl rfl (by first | exact .inl (by assumption) | exact .inr (by simp)) (fun _ h _ => by first | (cases h; done) | exact List.mem_cons_of_mem _ h | exact List.mem_cons_of_mem _ (List.mem_cons_of_mem _ h) | (simp at h ⊢; simp [h])) ?_
  refine ws_nil ?_
  refine qe_then ?_
  refine wc_seq ?_
  refine wc_seq ?_
  refine wc_plain [(0, .x true), (1, .x true)] (by kernel_rfl) ?_
  refine ws_l rfl rfl rfl rfl (rd_move rfl) ?_
  refine ws_call rfl rfl rfl rfl rfl (En.go) (fun w hp hn ho => all_ret none w) (fun _ h => by cases h) (fun hh q h => by first | (cases h; done) | exact hh q h) ?_
  rintro v12 wa wb hpo hon hon2 hp1 ⟨c, rfl, hc0, hc⟩
  refine ⟨[(c, _)], hc, by simp, fun b hb => .inl (by simp at hb; subst hb; exact hc0), ?_⟩
  replace hc0 := Nat.le_trans hon.size hc0
  simp only [List.cons_append, List.nil_append]
  refine ws_nil ?_
  refine qe_then ?_
  refine wc_block ?_
  refine wc_range ([]) ((c, Obj.cells #[.pointer none] 35 (0, 0)) :: (b6, .cells #[I 0] 3 (0, 0)) :: (b2, .cells (entC x) 24 (0, 0)) :: []) (fun _ ν => ν = []) (fun _ _ _ => False) rfl (En.go) rfl rfl (fun b hb => by simp at hb) rfl (all1_nil c) (fun ζ hζ => hζ _ (by simp)) ?_ ?_ ?_
  · intro mk D lp pre x rest νr w1 hrec hxs hJr hfr hw1
    exact absurd hxs (by simp)
  · intro D νr hD hJr hfr
    obtain rfl := hJr
    refine qe_eqh (η' := (D, dblk) :: (c, Obj.cells #[.pointer none] 35 (0, 0)) :: (b6, .cells #[I 0] 3 (0, 0)) :: (b2, .cells (entC x) 24 (0, 0)) :: []) rfl ?_
    refine qe_block ?_
    refine qe_then ?_
    refine wc_seq ?_
    refine wc_plain [(0, .x true), (1, .x true), (2, .x true), (3, .x true), (4, .x true), (5, .x true), (6, .x true), (7, .x true), (8, .x true), (9, .x true)] (by kernel_rfl) ?_
    refine ws_l rfl rfl rfl rfl (rd_move rfl) ?_
    refine ws_l rfl rfl rfl rfl (rd_fieldAddr rfl) ?_
    refine ws_l rfl rfl rfl rfl (rd_load rfl) ?_
    refine ws_callp rfl rfl rfl rfl rfl (En.go) (fun w hp hn ho => get_nil _ w) ?_
    refine ws_l rfl rfl rfl rfl (rd_move rfl) ?_
    refine ws_l rfl rfl rfl rfl (rd_extract rfl) ?_
    refine ws_l rfl rfl rfl rfl (rd_extract rfl) ?_
    refine ws_alloc rfl rfl rfl ?_
    intro b7 hb7
    refine ws_store rfl rfl rfl rfl (by first | exact .inl (by assumption) | exact .inr (by simp)) (fun _ h _ => by first | (cases h; done) | exact List.mem_cons_of_mem _ h | exact List.mem_cons_of_mem _ (List.mem_cons_of_mem _ h) | (simp at h ⊢; simp [h])) ?_
    refine ws_l rfl rfl rfl rfl (rd_assign rfl) ?_
    refine ws_nil ?_
    refine qe_then ?_
    refine wc_keep [(1, _), (2, _), (4, _), (5, _), (6, _), (8, _)] rfl ?_
    refine wc_seq ?_
    refine wc_plain [(0, .x true), (1, .x true), (2, .x true), (3, .x true), (4, .x true), (5, .x true), (6, .x true), (7, .x true), (8, .x true), (9, .x true), (10, .x true), (11, .x true), (12, .x true), (13, .x true), (14, .x true), (15, .x true), (16, .x true), (17, .x true), (18, .x true), (19, .x true), (20, .x true), (21, .x true), (22, .x true), (23, .x true), (24, .x true), (25, .x true), (26, .x true), (27, .x true), (28, .x true), (29, .x true), (30, .x true), (31, .x true), (32, .x true), (33, .x true), (34, .x true), (35, .x true), (36, .x true), (37, .x true), (38, .x true), (39, .x true), (40, .x true), (41, .x true), (42, .x true), (43, .x true), (44, .x true), (45, .x true), (46, .x true), (47, .x true), (48, .x true), (49, .x true), (50, .x true), (51, .x true), (52, .x true), (53, .x true), (54, .x true), (55, .x true), (56, .x true), (57, .x true), (58, .x true), (59, .x true), (60, .x true), (61, .x true), (62, .x true), (63, .x true), (64, .x true), (65, .x true), (66, .x true), (67, .x true), (68, .x true), (69, .x true), (70, .x true), (71, .x true), (72, .x true), (73, .x true), (74, .x true)] (by kernel_rfl) ?_
    refine ws_l rfl rfl rfl rfl (rd_load rfl) ?_
    refine ws_l rfl rfl rfl rfl (rd_cmp_t rfl rfl rfl (by simp [cmpP])) ?_
    refine ws_l rfl rfl rfl rfl (rd_move rfl) ?_
    refine ws_l rfl rfl rfl rfl (rd_move rfl) ?_
    refine ws_l rfl rfl rfl rfl (rd_not rfl) ?_
    refine ws_l rfl rfl rfl rfl (rd_pick_t rfl rfl) ?_
    refine ws_l rfl rfl rfl rfl (rd_move rfl) ?_
    refine ws_l rfl rfl rfl rfl (rd_move rfl) ?_
    refine ws_l rfl rfl rfl rfl (rd_load rfl) ?_
    refine ws_callp rfl rfl rfl rfl rfl (En.go) (fun w hp hn ho => to_ret _ w) ?_
    refine ws_callp rfl rfl rfl rfl rfl (En.go) (fun w hp hn ho => add_nil _ w) ?_
    refine ws_l rfl rfl rfl rfl (rd_cmp_t rfl rfl rfl (by decide)) ?_
    refine ws_l rfl rfl rfl rfl (rd_pick_t rfl rfl) ?_
    refine ws_l rfl rfl rfl rfl (rd_move rfl) ?_
    refine ws_l rfl rfl rfl rfl (rd_move rfl) ?_
    refine ws_l rfl rfl rfl rfl (rd_fieldAddr rfl) ?_
    refine ws_l rfl rfl rfl rfl (rd_load rfl) ?_
    refine ws_l rfl rfl rfl rfl (rd_fieldAddr rfl) ?_
    refine ws_l rfl rfl rfl rfl (rd_load rfl) ?_
    refine ws_l rfl rfl rfl rfl (rd_move rfl) ?_
    refine ws_callp rfl rfl rfl rfl rfl (En.go) (fun w hp hn ho => judge_nil _ _ _ _ w) ?_
    refine ws_l rfl rfl rfl rfl (rd_cmp_t rfl rfl rfl (by decide)) ?_
    refine ws_l rfl rfl rfl rfl (rd_pick_t rfl rfl) ?_
    refine ws_l rfl rfl rfl rfl (rd_move rfl) ?_
    refine ws_l rfl rfl rfl rfl (rd_move rfl) ?_
    refine ws_l rfl rfl rfl rfl (rd_fieldAddr rfl) ?_
    refine ws_l rfl rfl rfl rfl (rd_load rfl) ?_
    refine ws_callp rfl rfl rfl rfl rfl (En.go) (fun w hp hn ho => gone_nil _ w) ?_
    refine ws_l rfl rfl rfl rfl (rd_cmp_t rfl rfl rfl (by decide)) ?_
    refine ws_l rfl rfl rfl rfl (rd_pick_t rfl rfl) ?_
    refine ws_l rfl rfl rfl rfl (rd_move rfl) ?_
    refine ws_l rfl rfl rfl rfl (rd_move rfl) ?_
    refine ws_l rfl rfl rfl rfl (rd_move rfl) ?_
    refine ws_callp rfl rfl rfl rfl rfl (En.go) (fun w hp hn ho => forget_nil _ w) ?_
    refine ws_l rfl rfl rfl rfl (rd_len rfl Try.underlying46) ?_
    refine ws_l rfl rfl rfl rfl (rd_cmp_t rfl rfl rfl (by decide)) ?_
    refine ws_l rfl rfl rfl rfl (rd_pick_t rfl rfl) ?_
    refine ws_l rfl rfl rfl rfl (rd_move rfl) ?_
    refine ws_l rfl rfl rfl rfl (rd_move rfl) ?_
    refine ws_l rfl rfl rfl rfl (rd_move rfl) ?_
    refine ws_callp rfl rfl rfl rfl rfl (En.go) (fun w hp hn ho => since_nil _ w) ?_
    refine ws_l rfl rfl rfl rfl (rd_len rfl Try.underlying54) ?_
    refine ws_l rfl rfl rfl rfl (rd_cmp_t rfl rfl rfl (by decide)) ?_
    refine ws_l rfl rfl rfl rfl (rd_pick_t rfl rfl) ?_
    refine ws_l rfl rfl rfl rfl (rd_move rfl) ?_
    refine ws_l rfl rfl rfl rfl (rd_move rfl) ?_
    refine ws_callp rfl rfl rfl rfl rfl (En.go) (fun w hp hn ho => len_nil w) ?_
    refine ws_l rfl rfl rfl rfl (rd_cmp_t rfl rfl rfl (by decide)) ?_
    refine ws_l rfl rfl rfl rfl (rd_pick_t rfl rfl) ?_
    refine ws_l rfl rfl rfl rfl (rd_move rfl) ?_
    refine ws_l rfl rfl rfl rfl (rd_move rfl) ?_
    refine ws_callp rfl rfl rfl rfl rfl (En.go) (fun w hp hn ho => count_nil _ w) ?_
    refine ws_l rfl rfl rfl rfl (rd_cmp_t rfl rfl rfl (by decide)) ?_
    refine ws_l rfl rfl rfl rfl (rd_pick_t rfl rfl) ?_
    refine ws_l rfl rfl rfl rfl (rd_move rfl) ?_
    refine ws_l rfl rfl rfl rfl (rd_move rfl) ?_
    refine ws_callp rfl rfl rfl rfl rfl (En.go) (fun w hp hn ho => encode_nil w) ?_
    refine ws_l rfl rfl rfl rfl (rd_len rfl Try.underlying64) ?_
    refine ws_l rfl rfl rfl rfl (rd_cmp_t rfl rfl rfl (by decide)) ?_
    refine ws_l rfl rfl rfl rfl (rd_pick_t rfl rfl) ?_
    refine ws_l rfl rfl rfl rfl (rd_move rfl) ?_
    refine ws_l rfl rfl rfl rfl (rd_move rfl) ?_
    refine ws_callp rfl rfl rfl rfl rfl (En.go) (fun w hp hn ho => cutoff_nil w) ?_
    refine ws_l rfl rfl rfl rfl (rd_cmp_t rfl rfl rfl (by decide)) ?_
    refine ws_l rfl rfl rfl rfl (rd_pick_t rfl rfl) ?_
    refine ws_l rfl rfl rfl rfl (rd_move rfl) ?_
    refine ws_l rfl rfl rfl rfl (rd_move rfl) ?_
    refine ws_callp rfl rfl rfl rfl rfl (En.go) (fun w hp hn ho => clone_nil w) ?_
    refine ws_l rfl rfl rfl rfl (rd_nil_nil rfl rfl Try.underlying35 rfl) ?_
    refine ws_l rfl rfl rfl rfl (rd_pick_t rfl rfl) ?_
    refine ws_l rfl rfl rfl rfl (rd_move rfl) ?_
    refine ws_l rfl rfl rfl rfl (rd_move rfl) ?_
    refine ws_callp rfl rfl rfl rfl rfl (En.go) (fun w hp hn ho => equal_nil w) ?_
    refine ws_l rfl rfl rfl rfl (rd_pick_t rfl rfl) ?_
    refine ws_l rfl rfl rfl rfl (rd_assign rfl) ?_
    refine ws_nil ?_
    refine qe_then ?_
    refine wc_keep [(4, _)] rfl ?_
    refine wc_ret ?_
    refine qe_bodyM1 rfl hD _ (.inl rfl) (res1 rfl (RV.tmp rfl)) ?_
    exact ret_end fun w hp hn ho => rfl
  · intro D pre rest c νr hD hxs hXr hfr
    exact hXr.elim

end Go.Proofs.Ytegjmmjjchpeoaa
