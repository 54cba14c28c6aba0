/- Walks: words turned. No conditions. -/
import Derived.Test.YtheioljidangkaaGreatSha
namespace Go.Proofs.YtheioljidangkaaGreat
open Go Go.RowKit Go.Sx
set_option linter.unusedSimpArgs false
set_option linter.unusedVariables false

set_option maxRecDepth 100000 in
set_option maxHeartbeats 1000000 in
theorem rotate_ret (x : UInt32) (n : Nat) (hn : 0 < n ∧ n < 32) (w : World) : Ret Tryz.prog 86 [w32 x, I n] w [] (fun v _ => v = w32 (rotR x n)) := by
  refine enter (n := 13) (args := [w32 x, I n]) [] [] Tryz.func86 rfl rfl rfl (HpOK.nil w) (by simp) ?_
  refine wc_seq ?_
  refine wc_plain [(0, .x true)] (by kernel_rfl) ?_
  refine ws_l rfl rfl rfl rfl (rd_assign rfl) ?_
  refine ws_nil ?_
  refine qe_then ?_
  refine wc_seq ?_
  refine wc_drawn mixedT _ (fun _ h => h) [(0, .r), (1, .r), (2, .r), (3, .r), (4, .r), (5, .r), (6, .r), (7, .x true), (8, .x true)] (by kernel_rfl) ?_
  refine ws_r rfl rfl rfl rfl (rd_move rfl) ?_
  refine ws_r rfl rfl rfl rfl (rd_move rfl) ?_
  refine ws_r rfl rfl rfl rfl (rd_shr _ rfl rfl (by omega) (shr_32 x n (by omega))) ?_
  refine ws_r rfl rfl rfl rfl (rd_move rfl) ?_
  refine ws_r rfl rfl rfl rfl (rd_move rfl) ?_
  refine ws_r rfl rfl rfl rfl (rd_arith ((32 - n : Nat) : Int) rfl rfl rfl (by rw [wrap_i64 _ (by omega) (by omega)]; omega)) ?_
  refine ws_r rfl rfl rfl rfl (rd_shl _ rfl rfl (by omega) (shl_32 x (32 - n) (by omega))) ?_
  refine ws_late rfl ?_
  refine ws_l rfl rfl rfl rfl (rd_bits _ rfl rfl (or32 _ _)) ?_
  refine ws_l rfl rfl rfl rfl (rd_assign rfl) ?_
  refine ws_nil ?_
  refine qe_then ?_
  refine wc_keep [(4, _)] rfl ?_
  refine wc_ret ?_
  refine qe_body _ (.inl rfl) (res1 rfl (RV.tmp rfl)) ?_
  exact ret_end fun w hp hn ho => rfl
set_option maxRecDepth 100000 in
set_option maxHeartbeats 1000000 in
theorem rotl_ret (x : UInt32) (n : Nat) (hn : 0 < n ∧ n < 32) (w : World) : Ret Tryz.prog 121 [w32 x, I (-(n : Int))] w [] (fun v _ => v = w32 (rotR x n)) := by
  refine enter (n := 17) (args := [w32 x, I (-(n : Int))]) [] [] Tryz.func121 rfl rfl rfl (HpOK.nil w) (by simp) ?_
  refine wc_seq ?_
  refine wc_plain [(0, .x true)] (by kernel_rfl) ?_
  refine ws_l rfl rfl rfl rfl (rd_assign rfl) ?_
  refine ws_nil ?_
  refine qe_then ?_
  refine wc_seq ?_
  refine wc_plain [(0, .x true), (1, .x true), (2, .x true), (3, .x true)] (by kernel_rfl) ?_
  refine ws_l rfl rfl rfl rfl (rd_move rfl) ?_
  refine ws_l rfl rfl rfl rfl (rd_conv rfl (run_conv_int (IntKind.u64.wrap (-((n : Nat) : Int))) Tryz.underlying3 (Tryz.underlying163) rfl)) ?_
  refine ws_l rfl rfl rfl rfl (rd_bits _ rfl rfl (and31 ⟨n, hn.2⟩ hn.1)) ?_
  refine ws_l rfl rfl rfl rfl (rd_assign rfl) ?_
  refine ws_nil ?_
  refine qe_then ?_
  refine wc_seq ?_
  refine wc_plain [(0, .x true), (1, .x true), (2, .x true), (3, .x true), (4, .x true), (5, .x true), (6, .x true), (7, .x true), (8, .x true)] (by kernel_rfl) ?_
  refine ws_l rfl rfl rfl rfl (rd_move rfl) ?_
  refine ws_l rfl rfl rfl rfl (rd_move rfl) ?_
  refine ws_l rfl rfl rfl rfl (rd_shl _ rfl rfl (by omega) (shl_32 x (32 - n) (by omega))) ?_
  refine ws_l rfl rfl rfl rfl (rd_move rfl) ?_
  refine ws_l rfl rfl rfl rfl (rd_move rfl) ?_
  refine ws_l rfl rfl rfl rfl (rd_arith ((n : Nat) : Int) rfl rfl rfl (sub31 ⟨n, hn.2⟩ hn.1)) ?_
  refine ws_l rfl rfl rfl rfl (rd_shr _ rfl rfl (by omega) (shr_32 x n (by omega))) ?_
  refine ws_l rfl rfl rfl rfl (rd_bits _ rfl rfl (or32 _ _)) ?_
  refine ws_l rfl rfl rfl rfl (rd_assign rfl) ?_
  refine ws_nil ?_
  refine qe_then ?_
  refine wc_keep [(4, _)] rfl ?_
  refine wc_ret ?_
  refine qe_body _ (.inl rfl) (res1 rfl (RV.tmp rfl)) ?_
  exact ret_end fun w hp hn ho => by rw [rotR, UInt32.or_comm]
set_option maxRecDepth 100000 in
set_option maxHeartbeats 1000000 in
theorem right_ret (x : UInt32) (n : Nat) (hn0 : 0 < n ∧ n < 32) (w : World) : Ret Tryz.prog 118 [w32 x, I n] w [] (fun v _ => v = w32 (rotR x n)) := by
  refine enter (n := 9) (args := [w32 x, I n]) [] [] Tryz.func118 rfl rfl rfl (HpOK.nil w) (by simp) ?_
  refine wc_seq ?_
  refine wc_plain [(0, .x true)] (by kernel_rfl) ?_
  refine ws_l rfl rfl rfl rfl (rd_assign rfl) ?_
  refine ws_nil ?_
  refine qe_then ?_
  refine wc_seq ?_
  refine wc_plain [(0, .x true), (1, .x true), (2, .x true), (3, .x true), (4, .x true)] (by kernel_rfl) ?_
  refine ws_l rfl rfl rfl rfl (rd_move rfl) ?_
  refine ws_l rfl rfl rfl rfl (rd_move rfl) ?_
  refine ws_l rfl rfl rfl rfl (rd_neg (-(n : Int)) rfl (by rw [wrap_i64 _ (by omega) (by omega)]; omega)) ?_
  refine ws_callp rfl rfl rfl rfl rfl (En.go) (fun w hp hn ho => rotl_ret x n hn0 w) ?_
  refine ws_l rfl rfl rfl rfl (rd_assign rfl) ?_
  refine ws_nil ?_
  refine qe_then ?_
  refine wc_keep [(4, _)] rfl ?_
  refine wc_ret ?_
  refine qe_body _ (.inl rfl) (res1 rfl (RV.tmp rfl)) ?_
  exact ret_end fun w hp hn ho => rfl
set_option maxRecDepth 100000 in
set_option maxHeartbeats 4000000 in
theorem round_ret (v : WV 8) (k u : UInt32) (w : World) : Ret Tryz.prog 119 [wK v, w32 k, w32 u] w [] (fun r _ => r = wK (roundF v k u)) := by
  refine enter (n := 89) (args := [wK v, w32 k, w32 u]) [] [] Tryz.func119 rfl rfl rfl (HpOK.nil w) (by simp) ?_
  refine wc_seq ?_
  refine wc_plain [(0, .x true), (1, .x true)] (by kernel_rfl) ?_
  refine ws_box rfl rfl rfl rfl ?_
  intro b3 hb3
  refine ws_alloc rfl rfl rfl ?_
  intro b6 hb6
  refine ws_nil ?_
  refine qe_then ?_
  refine wc_seq ?_
  refine wc_drawn mixedT _ (fun _ h => h) [(0, .r), (1, .r), (2, .r), (3, .r), (5, .r), (6, .r), (9, .r), (10, .r), (14, .r), (15, .r), (16, .r), (17, .r), (18, .r), (19, .r), (20, .r), (21, .r), (22, .r), (23, .r), (24, .r), (25, .r), (27, .r), (29, .r), (4, .x false), (7, .x false), (8, .r), (11, .x false), (12, .r), (13, .r), (26, .r), (28, .r), (30, .x true), (31, .x true)] (by kernel_rfl) ?_
  refine ws_r rfl rfl rfl rfl (rd_fieldAddr rfl) ?_
  refine ws_r rfl rfl rfl rfl (rd_load rfl) ?_
  refine ws_r rfl rfl rfl rfl (rd_fieldAddr rfl) ?_
  refine ws_r rfl rfl rfl rfl (rd_load rfl) ?_
  refine ws_r rfl rfl rfl rfl (rd_fieldAddr rfl) ?_
  refine ws_r rfl rfl rfl rfl (rd_load rfl) ?_
  refine ws_r rfl rfl rfl rfl (rd_fieldAddr rfl) ?_
  refine ws_r rfl rfl rfl rfl (rd_load rfl) ?_
  refine ws_r rfl rfl rfl rfl (rd_fieldAddr rfl) ?_
  refine ws_r rfl rfl rfl rfl (rd_load rfl) ?_
  refine ws_r rfl rfl rfl rfl (rd_fieldAddr rfl) ?_
  refine ws_r rfl rfl rfl rfl (rd_load rfl) ?_
  refine ws_r rfl rfl rfl rfl (rd_bits _ rfl rfl (and32 _ _)) ?_
  refine ws_r rfl rfl rfl rfl (rd_fieldAddr rfl) ?_
  refine ws_r rfl rfl rfl rfl (rd_load rfl) ?_
  refine ws_r rfl rfl rfl rfl (rd_not32 rfl) ?_
  refine ws_r rfl rfl rfl rfl (rd_fieldAddr rfl) ?_
  refine ws_r rfl rfl rfl rfl (rd_load rfl) ?_
  refine ws_r rfl rfl rfl rfl (rd_bits _ rfl rfl (and32 _ _)) ?_
  refine ws_r rfl rfl rfl rfl (rd_bits _ rfl rfl (xor32 _ _)) ?_
  refine ws_r rfl rfl rfl rfl (rd_move rfl) ?_
  refine ws_r rfl rfl rfl rfl (rd_move rfl) ?_
  refine ws_callp rfl rfl rfl rfl rfl (En.go) (fun w hp hn ho => right_ret _ 6 (by omega) w) ?_
  refine ws_callp rfl rfl rfl rfl rfl (En.go) (fun w hp hn ho => right_ret _ 11 (by omega) w) ?_
  refine ws_r rfl rfl rfl rfl (rd_bits _ rfl rfl (xor32 _ _)) ?_
  refine ws_callp rfl rfl rfl rfl rfl (En.go) (fun w hp hn ho => right_ret _ 25 (by omega) w) ?_
  refine ws_r rfl rfl rfl rfl (rd_bits _ rfl rfl (xor32 _ _)) ?_
  refine ws_r rfl rfl rfl rfl (rd_arith _ rfl rfl rfl (add32 _ _)) ?_
  refine ws_r rfl rfl rfl rfl (rd_arith _ rfl rfl rfl (add32 _ _)) ?_
  refine ws_r rfl rfl rfl rfl (rd_arith _ rfl rfl rfl (add32 _ _)) ?_
  refine ws_late rfl ?_
  refine ws_l rfl rfl rfl rfl (rd_arith _ rfl rfl rfl (add32 _ _)) ?_
  refine ws_l rfl rfl rfl rfl (rd_assign rfl) ?_
  refine ws_nil ?_
  refine qe_then ?_
  refine wc_keep [(3, _), (6, _), (7, _)] rfl ?_
  refine wc_seq ?_
  refine wc_drawn mixedT _ (fun _ h => h) [(0, .r), (1, .r), (3, .r), (4, .r), (7, .r), (8, .r), (11, .r), (12, .r), (13, .r), (14, .r), (15, .r), (16, .r), (17, .r), (18, .r), (19, .r), (20, .r), (21, .r), (22, .r), (23, .r), (24, .r), (25, .r), (26, .r), (27, .r), (2, .x false), (5, .x false), (6, .r), (9, .x false), (10, .r), (28, .x true), (29, .x true)] (by kernel_rfl) ?_
  refine ws_r rfl rfl rfl rfl (rd_fieldAddr rfl) ?_
  refine ws_r rfl rfl rfl rfl (rd_load rfl) ?_
  refine ws_r rfl rfl rfl rfl (rd_fieldAddr rfl) ?_
  refine ws_r rfl rfl rfl rfl (rd_load rfl) ?_
  refine ws_r rfl rfl rfl rfl (rd_fieldAddr rfl) ?_
  refine ws_r rfl rfl rfl rfl (rd_load rfl) ?_
  refine ws_r rfl rfl rfl rfl (rd_fieldAddr rfl) ?_
  refine ws_r rfl rfl rfl rfl (rd_load rfl) ?_
  refine ws_r rfl rfl rfl rfl (rd_fieldAddr rfl) ?_
  refine ws_r rfl rfl rfl rfl (rd_load rfl) ?_
  refine ws_r rfl rfl rfl rfl (rd_bits _ rfl rfl (and32 _ _)) ?_
  refine ws_r rfl rfl rfl rfl (rd_fieldAddr rfl) ?_
  refine ws_r rfl rfl rfl rfl (rd_load rfl) ?_
  refine ws_r rfl rfl rfl rfl (rd_fieldAddr rfl) ?_
  refine ws_r rfl rfl rfl rfl (rd_load rfl) ?_
  refine ws_r rfl rfl rfl rfl (rd_bits _ rfl rfl (and32 _ _)) ?_
  refine ws_r rfl rfl rfl rfl (rd_bits _ rfl rfl (xor32 _ _)) ?_
  refine ws_r rfl rfl rfl rfl (rd_fieldAddr rfl) ?_
  refine ws_r rfl rfl rfl rfl (rd_load rfl) ?_
  refine ws_r rfl rfl rfl rfl (rd_fieldAddr rfl) ?_
  refine ws_r rfl rfl rfl rfl (rd_load rfl) ?_
  refine ws_r rfl rfl rfl rfl (rd_bits _ rfl rfl (and32 _ _)) ?_
  refine ws_r rfl rfl rfl rfl (rd_bits _ rfl rfl (xor32 _ _)) ?_
  refine ws_callp rfl rfl rfl rfl rfl (En.go) (fun w hp hn ho => right_ret _ 2 (by omega) w) ?_
  refine ws_callp rfl rfl rfl rfl rfl (En.go) (fun w hp hn ho => right_ret _ 13 (by omega) w) ?_
  refine ws_r rfl rfl rfl rfl (rd_bits _ rfl rfl (xor32 _ _)) ?_
  refine ws_callp rfl rfl rfl rfl rfl (En.go) (fun w hp hn ho => right_ret _ 22 (by omega) w) ?_
  refine ws_r rfl rfl rfl rfl (rd_bits _ rfl rfl (xor32 _ _)) ?_
  refine ws_late rfl ?_
  refine ws_l rfl rfl rfl rfl (rd_arith _ rfl rfl rfl (add32 _ _)) ?_
  refine ws_l rfl rfl rfl rfl (rd_assign rfl) ?_
  refine ws_nil ?_
  refine qe_then ?_
  refine wc_keep [(3, _), (6, _), (7, _), (8, _)] rfl ?_
  refine wc_seq ?_
  refine wc_plain [(0, .x true), (1, .x true), (2, .x true), (3, .x true), (4, .x true), (5, .x true), (6, .x true), (7, .x true), (8, .x true), (9, .x true), (10, .x true), (11, .x true), (12, .x true), (13, .x true), (14, .x true), (15, .x true), (16, .x true), (17, .x true), (18, .x true), (19, .x true), (20, .x true)] (by kernel_rfl) ?_
  refine ws_l rfl rfl rfl rfl (rd_move rfl) ?_
  refine ws_l rfl rfl rfl rfl (rd_move rfl) ?_
  refine ws_l rfl rfl rfl rfl (rd_arith _ rfl rfl rfl (add32 _ _)) ?_
  refine ws_l rfl rfl rfl rfl (rd_fieldAddr rfl) ?_
  refine ws_l rfl rfl rfl rfl (rd_load rfl) ?_
  refine ws_l rfl rfl rfl rfl (rd_fieldAddr rfl) ?_
  refine ws_l rfl rfl rfl rfl (rd_load rfl) ?_
  refine ws_l rfl rfl rfl rfl (rd_fieldAddr rfl) ?_
  refine ws_l rfl rfl rfl rfl (rd_load rfl) ?_
  refine ws_l rfl rfl rfl rfl (rd_fieldAddr rfl) ?_
  refine ws_l rfl rfl rfl rfl (rd_load rfl) ?_
  refine ws_l rfl rfl rfl rfl (rd_move rfl) ?_
  refine ws_l rfl rfl rfl rfl (rd_arith _ rfl rfl rfl (add32 _ _)) ?_
  refine ws_l rfl rfl rfl rfl (rd_fieldAddr rfl) ?_
  refine ws_l rfl rfl rfl rfl (rd_load rfl) ?_
  refine ws_l rfl rfl rfl rfl (rd_fieldAddr rfl) ?_
  refine ws_l rfl rfl rfl rfl (rd_load rfl) ?_
  refine ws_l rfl rfl rfl rfl (rd_fieldAddr rfl) ?_
  refine ws_l rfl rfl rfl rfl (rd_load rfl) ?_
  refine ws_l rfl rfl rfl rfl (rd_build rfl) ?_
  refine ws_store rfl rfl rfl rfl (by first | exact .inl (by assumption) | exact .inr (by simp)) (fun _ h _ => by first | (cases h; done) | exact List.mem_cons_of_mem _ h | exact List.mem_cons_of_mem _ (List.mem_cons_of_mem _ h) | (simp at h ⊢; simp [h])) ?_
  refine ws_nil ?_
  refine qe_then ?_
  refine wc_keep [(6, _)] rfl ?_
  refine wc_ret ?_
  refine qe_body _ (.inl rfl) (res1 rfl (RV.cell rfl)) ?_
  exact ret_end fun w hp hn ho => rfl
set_option maxRecDepth 100000 in
set_option maxHeartbeats 1000000 in
theorem plus_ret (v u : WV 8) (w : World) : Ret Tryz.prog 120 [wK v, wK u] w [] (fun r _ => r = wK (plusF v u)) := by
  refine enter (n := 46) (args := [wK v, wK u]) [] [] Tryz.func120 rfl rfl rfl (HpOK.nil w) (by simp) ?_
  refine wc_seq ?_
  refine wc_plain [(0, .x true), (1, .x true), (2, .x true)] (by kernel_rfl) ?_
  refine ws_box rfl rfl rfl rfl ?_
  intro b2 hb2
  refine ws_box rfl rfl rfl rfl ?_
  intro b3 hb3
  refine ws_alloc rfl rfl rfl ?_
  intro b4 hb4
  refine ws_nil ?_
  refine qe_then ?_
  refine wc_seq ?_
  refine wc_plain [(0, .x true), (1, .x true), (2, .x true), (3, .x true), (4, .x true), (5, .x true), (6, .x true), (7, .x true), (8, .x true), (9, .x true), (10, .x true), (11, .x true), (12, .x true), (13, .x true), (14, .x true), (15, .x true), (16, .x true), (17, .x true), (18, .x true), (19, .x true), (20, .x true), (21, .x true), (22, .x true), (23, .x true), (24, .x true), (25, .x true), (26, .x true), (27, .x true), (28, .x true), (29, .x true), (30, .x true), (31, .x true), (32, .x true), (33, .x true), (34, .x true), (35, .x true), (36, .x true), (37, .x true), (38, .x true), (39, .x true), (40, .x true), (41, .x true)] (by kernel_rfl) ?_
  refine ws_l rfl rfl rfl rfl (rd_fieldAddr rfl) ?_
  refine ws_l rfl rfl rfl rfl (rd_load rfl) ?_
  refine ws_l rfl rfl rfl rfl (rd_fieldAddr rfl) ?_
  refine ws_l rfl rfl rfl rfl (rd_load rfl) ?_
  refine ws_l rfl rfl rfl rfl (rd_arith _ rfl rfl rfl (add32 _ _)) ?_
  refine ws_l rfl rfl rfl rfl (rd_fieldAddr rfl) ?_
  refine ws_l rfl rfl rfl rfl (rd_load rfl) ?_
  refine ws_l rfl rfl rfl rfl (rd_fieldAddr rfl) ?_
  refine ws_l rfl rfl rfl rfl (rd_load rfl) ?_
  refine ws_l rfl rfl rfl rfl (rd_arith _ rfl rfl rfl (add32 _ _)) ?_
  refine ws_l rfl rfl rfl rfl (rd_fieldAddr rfl) ?_
  refine ws_l rfl rfl rfl rfl (rd_load rfl) ?_
  refine ws_l rfl rfl rfl rfl (rd_fieldAddr rfl) ?_
  refine ws_l rfl rfl rfl rfl (rd_load rfl) ?_
  refine ws_l rfl rfl rfl rfl (rd_arith _ rfl rfl rfl (add32 _ _)) ?_
  refine ws_l rfl rfl rfl rfl (rd_fieldAddr rfl) ?_
  refine ws_l rfl rfl rfl rfl (rd_load rfl) ?_
  refine ws_l rfl rfl rfl rfl (rd_fieldAddr rfl) ?_
  refine ws_l rfl rfl rfl rfl (rd_load rfl) ?_
  refine ws_l rfl rfl rfl rfl (rd_arith _ rfl rfl rfl (add32 _ _)) ?_
  refine ws_l rfl rfl rfl rfl (rd_fieldAddr rfl) ?_
  refine ws_l rfl rfl rfl rfl (rd_load rfl) ?_
  refine ws_l rfl rfl rfl rfl (rd_fieldAddr rfl) ?_
  refine ws_l rfl rfl rfl rfl (rd_load rfl) ?_
  refine ws_l rfl rfl rfl rfl (rd_arith _ rfl rfl rfl (add32 _ _)) ?_
  refine ws_l rfl rfl rfl rfl (rd_fieldAddr rfl) ?_
  refine ws_l rfl rfl rfl rfl (rd_load rfl) ?_
  refine ws_l rfl rfl rfl rfl (rd_fieldAddr rfl) ?_
  refine ws_l rfl rfl rfl rfl (rd_load rfl) ?_
  refine ws_l rfl rfl rfl rfl (rd_arith _ rfl rfl rfl (add32 _ _)) ?_
  refine ws_l rfl rfl rfl rfl (rd_fieldAddr rfl) ?_
  refine ws_l rfl rfl rfl rfl (rd_load rfl) ?_
  refine ws_l rfl rfl rfl rfl (rd_fieldAddr rfl) ?_
  refine ws_l rfl rfl rfl rfl (rd_load rfl) ?_
  refine ws_l rfl rfl rfl rfl (rd_arith _ rfl rfl rfl (add32 _ _)) ?_
  refine ws_l rfl rfl rfl rfl (rd_fieldAddr rfl) ?_
  refine ws_l rfl rfl rfl rfl (rd_load rfl) ?_
  refine ws_l rfl rfl rfl rfl (rd_fieldAddr rfl) ?_
  refine ws_l rfl rfl rfl rfl (rd_load rfl) ?_
  refine ws_l rfl rfl rfl rfl (rd_arith _ rfl rfl rfl (add32 _ _)) ?_
  refine ws_l rfl rfl rfl rfl (rd_build rfl) ?_
  refine ws_store rfl rfl rfl rfl (by first | exact .inl (by assumption) | exact .inr (by simp)) (fun _ h _ => by first | (cases h; done) | exact List.mem_cons_of_mem _ h | exact List.mem_cons_of_mem _ (List.mem_cons_of_mem _ h) | (simp at h ⊢; simp [h])) ?_
  refine ws_nil ?_
  refine qe_then ?_
  refine wc_keep [(4, _)] rfl ?_
  refine wc_ret ?_
  refine qe_body _ (.inl rfl) (res1 rfl (RV.cell rfl)) ?_
  exact ret_end fun w hp hn ho => rfl

end Go.Proofs.YtheioljidangkaaGreat
