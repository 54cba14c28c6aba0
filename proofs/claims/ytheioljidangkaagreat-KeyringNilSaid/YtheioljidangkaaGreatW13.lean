/- Walks: check, Add, the Add of the reference. No conditions. -/
import Derived.Test.YtheioljidangkaaGreatW12
import Derived.Test.YtheioljidangkaaGreatW6
namespace Go.Proofs.YtheioljidangkaaGreat
open Go Go.RowKit Go.Sx
set_option linter.unusedSimpArgs false
set_option linter.unusedVariables false

instance : BuildsS Tryz.prog 25 0 [] 53 #[] := BuildsS.zero Tryz.underlying25 Tryz.sizeOf53
set_option maxRecDepth 100000 in
set_option maxHeartbeats 8000000 in
theorem check_ret (i : Id) (x : CT) (y : CM) (w : World) : Ret Tryz.prog 36 [ctK x, cmK y] w [] (fun u _ => u = I (errR ⟨i, x.au, x.n, x.p, x.leaf, y.p⟩ y.kind y.n)) := by
  refine enter (n := 69) (args := [ctK x, cmK y]) [] [] Tryz.func36 rfl rfl rfl (HpOK.nil w) (by simp) ?_
  refine wc_seq ?_
  refine wc_plain [(0, .x true), (1, .x true), (2, .x true)] (by kernel_rfl) ?_
  refine ws_box rfl rfl rfl rfl ?_
  intro b2 hb2
  refine ws_box rfl rfl rfl rfl ?_
  intro b3 hb3
  refine ws_l rfl rfl rfl rfl (rd_assign rfl) ?_
  refine ws_nil ?_
  refine qe_then ?_
  refine wc_seq ?_
  refine wc_block ?_
  refine wc_seq ?_
  refine wc_plain [(0, .x true), (1, .x true), (2, .x true), (3, .x true)] (by kernel_rfl) ?_
  refine ws_l rfl rfl rfl rfl (rd_fieldAddr rfl) ?_
  refine ws_l rfl rfl rfl rfl (rd_load rfl) ?_
  refine ws_lcmp rfl rfl rfl (rfl) (rfl) (rfl) ?_ ?_
  · intro h8
    refine ws_l rfl rfl rfl rfl (rd_assign rfl) ?_
    refine ws_nil ?_
    refine qe_then ?_
    refine wc_keep [(2, _), (3, _), (4, _), (5, _)] rfl ?_
    refine wc_true rfl ?_
    refine wc_seq ?_
    refine wc_plain [(0, .x true)] (by kernel_rfl) ?_
    refine ws_l rfl rfl rfl rfl (rd_assign rfl) ?_
    refine ws_nil ?_
    refine qe_then ?_
    refine wc_ret ?_
    refine qe_block_ret ?_
    refine qe_then_ret ?_
    refine qe_body _ (.inl rfl) (res1 rfl (RV.tmp rfl)) ?_
    exact ret_end fun w hp hn ho => by simp only [errR]; (try simp only [cmpP, ne_eq, Decidable.not_not] at *); grind
  · intro h8
    refine ws_l rfl rfl rfl rfl (rd_assign rfl) ?_
    refine ws_nil ?_
    refine qe_then ?_
    refine wc_keep [(2, _), (3, _), (4, _), (5, _)] rfl ?_
    refine wc_false rfl ?_
    refine wc_seq ?_
    refine wc_plain [(0, .x true), (1, .x true), (2, .x true), (3, .x true), (4, .x true), (5, .x true), (6, .x true), (7, .x true), (8, .x true)] (by kernel_rfl) ?_
    refine ws_l rfl rfl rfl rfl (rd_fieldAddr rfl) ?_
    refine ws_l rfl rfl rfl rfl (rd_load rfl) ?_
    refine ws_lcmp rfl rfl rfl (rfl) (rfl) (rfl) ?_ ?_
    · intro h12
      refine ws_l rfl rfl rfl rfl (rd_move rfl) ?_
      refine ws_xskip rfl rfl rfl rfl ?_
      refine ws_xskip rfl rfl rfl rfl ?_
      refine ws_xskip rfl rfl rfl rfl ?_
      refine ws_l rfl rfl rfl rfl (rd_pick_t rfl rfl) ?_
      refine ws_l rfl rfl rfl rfl (rd_assign rfl) ?_
      refine ws_nil ?_
      refine qe_then ?_
      refine wc_keep [(2, _), (3, _), (4, _), (9, _)] rfl ?_
      refine wc_true rfl ?_
      refine wc_seq ?_
      refine wc_plain [(0, .x true)] (by kernel_rfl) ?_
      refine ws_l rfl rfl rfl rfl (rd_assign rfl) ?_
      refine ws_nil ?_
      refine qe_then ?_
      refine wc_ret ?_
      refine qe_block_ret ?_
      refine qe_then_ret ?_
      refine qe_body _ (.inl rfl) (res1 rfl (RV.tmp rfl)) ?_
      exact ret_end fun w hp hn ho => by simp only [errR]; (try simp only [cmpP, ne_eq, Decidable.not_not] at *); grind
    · intro h12
      refine ws_l rfl rfl rfl rfl (rd_move rfl) ?_
      refine ws_l rfl rfl rfl rfl (rd_fieldAddr rfl) ?_
      refine ws_l rfl rfl rfl rfl (rd_load rfl) ?_
      refine ws_lcmp rfl rfl rfl (rfl) (rfl) (rfl) ?_ ?_
      · intro h16
        refine ws_l rfl rfl rfl rfl (rd_pick_f rfl rfl) ?_
        refine ws_l rfl rfl rfl rfl (rd_assign rfl) ?_
        refine ws_nil ?_
        refine qe_then ?_
        refine wc_keep [(2, _), (3, _), (4, _), (9, _)] rfl ?_
        refine wc_true rfl ?_
        refine wc_seq ?_
        refine wc_plain [(0, .x true)] (by kernel_rfl) ?_
        refine ws_l rfl rfl rfl rfl (rd_assign rfl) ?_
        refine ws_nil ?_
        refine qe_then ?_
        refine wc_ret ?_
        refine qe_block_ret ?_
        refine qe_then_ret ?_
        refine qe_body _ (.inl rfl) (res1 rfl (RV.tmp rfl)) ?_
        exact ret_end fun w hp hn ho => by simp only [errR]; (try simp only [cmpP, ne_eq, Decidable.not_not] at *); grind
      · intro h16
        refine ws_l rfl rfl rfl rfl (rd_pick_f rfl rfl) ?_
        refine ws_l rfl rfl rfl rfl (rd_assign rfl) ?_
        refine ws_nil ?_
        refine qe_then ?_
        refine wc_keep [(2, _), (3, _), (4, _), (9, _)] rfl ?_
        refine wc_false rfl ?_
        refine wc_seq ?_
        refine wc_plain [(0, .x true), (1, .x true), (2, .x true), (3, .x true), (4, .x true), (5, .x true), (6, .x true)] (by kernel_rfl) ?_
        refine ws_l rfl rfl rfl rfl (rd_fieldAddr rfl) ?_
        refine ws_l rfl rfl rfl rfl (rd_load rfl) ?_
        refine ws_l rfl rfl rfl rfl (rd_fieldAddr rfl) ?_
        refine ws_l rfl rfl rfl rfl (rd_load rfl) ?_
        refine ws_l rfl rfl rfl rfl (rd_arith (x.n + 1) rfl rfl rfl (by simp only [cmpP] at h12 h16; exact wrap_i64 _ (by omega) (by omega))) ?_
        refine ws_lcmp rfl rfl rfl (rfl) (rfl) (rfl) ?_ ?_
        · intro h24
          refine ws_l rfl rfl rfl rfl (rd_assign rfl) ?_
          refine ws_nil ?_
          refine qe_then ?_
          refine wc_keep [(2, _), (3, _), (4, _), (18, _)] rfl ?_
          refine wc_true rfl ?_
          refine wc_seq ?_
          refine wc_plain [(0, .x true)] (by kernel_rfl) ?_
          refine ws_l rfl rfl rfl rfl (rd_assign rfl) ?_
          refine ws_nil ?_
          refine qe_then ?_
          refine wc_ret ?_
          refine qe_block_ret ?_
          refine qe_then_ret ?_
          refine qe_body _ (.inl rfl) (res1 rfl (RV.tmp rfl)) ?_
          exact ret_end fun w hp hn ho => by simp only [errR]; (try simp only [cmpP, ne_eq, Decidable.not_not] at *); grind
        · intro h24
          refine ws_l rfl rfl rfl rfl (rd_assign rfl) ?_
          refine ws_nil ?_
          refine qe_then ?_
          refine wc_keep [(2, _), (3, _), (4, _), (18, _)] rfl ?_
          refine wc_false rfl ?_
          refine wc_seq ?_
          refine wc_drawn mixedT _ (fun _ h => h) [(0, .r), (1, .r), (2, .x false), (3, .r), (4, .r), (5, .r), (6, .r), (7, .x false), (8, .r), (9, .r), (10, .r), (11, .r), (12, .r), (13, .r), (14, .r), (15, .r), (16, .r), (17, .r), (18, .r), (19, .r), (20, .r), (21, .r), (22, .r), (23, .r), (24, .r), (25, .r), (26, .r), (27, .r), (28, .r), (29, .x true), (30, .x true), (31, .x true)] (by kernel_rfl) ?_
          refine ws_r rfl rfl rfl rfl (rd_fieldAddr rfl) ?_
          refine ws_r rfl rfl rfl rfl (rd_load rfl) ?_
          refine ws_callp rfl rfl rfl rfl rfl (En.go) (fun w hp hn ho => check_pub x.p w) ?_
          by_cases hf1 : fineB x.p
          · simp only [if_pos hf1]
            refine ws_r rfl rfl rfl rfl (rd_cmp_f rfl rfl rfl (by simp [cmpP])) ?_
            refine ws_r rfl rfl rfl rfl (rd_move rfl) ?_
            refine ws_r rfl rfl rfl rfl (rd_fieldAddr rfl) ?_
            refine ws_r rfl rfl rfl rfl (rd_load rfl) ?_
            refine ws_callp rfl rfl rfl rfl rfl (En.go) (fun w hp hn ho => check_pub y.p w) ?_
            by_cases hf2 : fineB y.p
            · simp only [if_pos hf2]
              refine ws_r rfl rfl rfl rfl (rd_cmp_f rfl rfl rfl (by simp [cmpP])) ?_
              refine ws_r rfl rfl rfl rfl (rd_pick_f rfl rfl) ?_
              refine ws_r rfl rfl rfl rfl (rd_move rfl) ?_
              refine ws_r rfl rfl rfl rfl (rd_fieldAddr rfl) ?_
              refine ws_r rfl rfl rfl rfl (rd_load rfl) ?_
              refine ws_r rfl rfl rfl rfl (rd_fieldAddr rfl) ?_
              refine ws_r rfl rfl rfl rfl (rd_load rfl) ?_
              refine ws_rp _ rfl rfl rfl rfl (rd_eql35 rfl rfl) ?_ ?_
              · intro h41
                refine ws_r rfl rfl rfl rfl (rd_pick_f rfl rfl) ?_
                refine ws_r rfl rfl rfl rfl (rd_move rfl) ?_
                refine ws_rskip rfl rfl rfl rfl ?_
                refine ws_rskip rfl rfl rfl rfl ?_
                refine ws_rskip rfl rfl rfl rfl ?_
                refine ws_r rfl rfl rfl rfl (rd_pick_t rfl rfl) ?_
                refine ws_r rfl rfl rfl rfl (rd_move rfl) ?_
                refine ws_rskip rfl rfl rfl rfl ?_
                refine ws_rskip rfl rfl rfl rfl ?_
                refine ws_rskip rfl rfl rfl rfl ?_
                refine ws_rskip rfl rfl rfl rfl ?_
                refine ws_rskip rfl rfl rfl rfl ?_
                refine ws_rskip rfl rfl rfl rfl ?_
                refine ws_late rfl ?_
                refine ws_xskip rfl rfl rfl rfl ?_
                refine ws_l rfl rfl rfl rfl (rd_pick_t rfl rfl) ?_
                refine ws_l rfl rfl rfl rfl (rd_assign rfl) ?_
                refine ws_nil ?_
                refine qe_then ?_
                refine wc_keep [(2, _), (4, _), (25, _)] rfl ?_
                refine wc_true rfl ?_
                refine wc_seq ?_
                refine wc_plain [(0, .x true)] (by kernel_rfl) ?_
                refine ws_l rfl rfl rfl rfl (rd_assign rfl) ?_
                refine ws_nil ?_
                refine qe_then ?_
                refine wc_ret ?_
                refine qe_block_ret ?_
                refine qe_then_ret ?_
                refine qe_body _ (.inl rfl) (res1 rfl (RV.tmp rfl)) ?_
                exact ret_end fun w hp hn ho => by simp only [errR]; (try simp only [cmpP, ne_eq, Decidable.not_not] at *); grind
              · intro h41
                refine ws_r rfl rfl rfl rfl (rd_pick_f rfl rfl) ?_
                refine ws_r rfl rfl rfl rfl (rd_move rfl) ?_
                refine ws_r rfl rfl rfl rfl (rd_fieldAddr rfl) ?_
                refine ws_r rfl rfl rfl rfl (rd_load rfl) ?_
                refine ws_rcmp rfl rfl rfl (rfl) (rfl) (rfl) ?_ ?_
                · intro h46
                  refine ws_r rfl rfl rfl rfl (rd_pick_f rfl rfl) ?_
                  refine ws_r rfl rfl rfl rfl (rd_move rfl) ?_
                  refine ws_rskip rfl rfl rfl rfl ?_
                  refine ws_rskip rfl rfl rfl rfl ?_
                  refine ws_rskip rfl rfl rfl rfl ?_
                  refine ws_rskip rfl rfl rfl rfl ?_
                  refine ws_rskip rfl rfl rfl rfl ?_
                  refine ws_rskip rfl rfl rfl rfl ?_
                  refine ws_late rfl ?_
                  refine ws_xskip rfl rfl rfl rfl ?_
                  refine ws_l rfl rfl rfl rfl (rd_pick_t rfl rfl) ?_
                  refine ws_l rfl rfl rfl rfl (rd_assign rfl) ?_
                  refine ws_nil ?_
                  refine qe_then ?_
                  refine wc_keep [(2, _), (4, _), (25, _)] rfl ?_
                  refine wc_true rfl ?_
                  refine wc_seq ?_
                  refine wc_plain [(0, .x true)] (by kernel_rfl) ?_
                  refine ws_l rfl rfl rfl rfl (rd_assign rfl) ?_
                  refine ws_nil ?_
                  refine qe_then ?_
                  refine wc_ret ?_
                  refine qe_block_ret ?_
                  refine qe_then_ret ?_
                  refine qe_body _ (.inl rfl) (res1 rfl (RV.tmp rfl)) ?_
                  exact ret_end fun w hp hn ho => by simp only [errR]; (try simp only [cmpP, ne_eq, Decidable.not_not] at *); grind
                · intro h46
                  refine ws_r rfl rfl rfl rfl (rd_pick_f rfl rfl) ?_
                  refine ws_r rfl rfl rfl rfl (rd_move rfl) ?_
                  refine ws_r rfl rfl rfl rfl (rd_fieldAddr rfl) ?_
                  refine ws_r rfl rfl rfl rfl (rd_load rfl) ?_
                  refine ws_r rfl rfl rfl rfl (rd_fieldAddr rfl) ?_
                  refine ws_r rfl rfl rfl rfl (rd_fieldAddr rfl) ?_
                  refine ws_r rfl rfl rfl rfl (rd_load rfl) ?_
                  refine ws_r rfl rfl rfl rfl (rd_shl ((2 : Int) ^ x.p.h.toNat) rfl rfl (by have := (hf1).1; omega) (shl_h (hf1).1 (hf1).2)) ?_
                  refine ws_late rfl ?_
                  refine ws_lcmp rfl rfl rfl (rfl) (rfl) (rfl) ?_ ?_
                  · intro h55
                    refine ws_l rfl rfl rfl rfl (rd_pick_f rfl rfl) ?_
                    refine ws_l rfl rfl rfl rfl (rd_assign rfl) ?_
                    refine ws_nil ?_
                    refine qe_then ?_
                    refine wc_keep [(2, _), (4, _), (25, _)] rfl ?_
                    refine wc_true rfl ?_
                    refine wc_seq ?_
                    refine wc_plain [(0, .x true)] (by kernel_rfl) ?_
                    refine ws_l rfl rfl rfl rfl (rd_assign rfl) ?_
                    refine ws_nil ?_
                    refine qe_then ?_
                    refine wc_ret ?_
                    refine qe_block_ret ?_
                    refine qe_then_ret ?_
                    refine qe_body _ (.inl rfl) (res1 rfl (RV.tmp rfl)) ?_
                    exact ret_end fun w hp hn ho => by simp only [errR]; (try simp only [cmpP, ne_eq, Decidable.not_not] at *); grind
                  · intro h55
                    refine ws_l rfl rfl rfl rfl (rd_pick_f rfl rfl) ?_
                    refine ws_l rfl rfl rfl rfl (rd_assign rfl) ?_
                    refine ws_nil ?_
                    refine qe_then ?_
                    refine wc_keep [(2, _), (4, _), (25, _)] rfl ?_
                    refine wc_false rfl ?_
                    refine wc_seq ?_
                    refine wc_plain [(0, .x true), (1, .x true), (2, .x true), (3, .x true), (4, .x true), (5, .x true), (6, .x true), (7, .x true), (8, .x true), (9, .x true), (10, .x true), (11, .x true)] (by kernel_rfl) ?_
                    refine ws_l rfl rfl rfl rfl (rd_fieldAddr rfl) ?_
                    refine ws_l rfl rfl rfl rfl (rd_load rfl) ?_
                    refine ws_lcmp rfl rfl rfl (rfl) (rfl) (rfl) ?_ ?_
                    · intro h60
                      refine ws_l rfl rfl rfl rfl (rd_move rfl) ?_
                      refine ws_l rfl rfl rfl rfl (rd_fieldAddr rfl) ?_
                      refine ws_l rfl rfl rfl rfl (rd_load rfl) ?_
                      refine ws_l rfl rfl rfl rfl (rd_fieldAddr rfl) ?_
                      refine ws_l rfl rfl rfl rfl (rd_load rfl) ?_
                      refine ws_callb (decide _) rfl rfl rfl rfl rfl (En.go) (fun w hp hn ho => first_ret x.au x.p w) ?_ ?_
                      · intro hof
                        refine ws_l rfl rfl rfl rfl (rd_not rfl) ?_
                        refine ws_l rfl rfl rfl rfl (rd_pick_t rfl rfl) ?_
                        refine ws_l rfl rfl rfl rfl (rd_assign rfl) ?_
                        refine ws_nil ?_
                        refine qe_then ?_
                        refine wc_keep [(4, _), (57, _)] rfl ?_
                        refine wc_false rfl ?_
                        refine wc_skip ?_
                        refine qe_block ?_
                        refine qe_then ?_
                        refine wc_seq ?_
                        refine wc_plain [(0, .x true)] (by kernel_rfl) ?_
                        refine ws_l rfl rfl rfl rfl (rd_assign rfl) ?_
                        refine ws_nil ?_
                        refine qe_then ?_
                        refine wc_ret ?_
                        refine qe_body _ (.inl rfl) (res1 rfl (RV.tmp rfl)) ?_
                        exact ret_end fun w hp hn ho => by simp only [errR]; (try simp only [cmpP, ne_eq, Decidable.not_not] at *); grind
                      · intro hof
                        refine ws_l rfl rfl rfl rfl (rd_not rfl) ?_
                        refine ws_l rfl rfl rfl rfl (rd_pick_t rfl rfl) ?_
                        refine ws_l rfl rfl rfl rfl (rd_assign rfl) ?_
                        refine ws_nil ?_
                        refine qe_then ?_
                        refine wc_keep [(4, _), (57, _)] rfl ?_
                        refine wc_true rfl ?_
                        refine wc_seq ?_
                        refine wc_plain [(0, .x true)] (by kernel_rfl) ?_
                        refine ws_l rfl rfl rfl rfl (rd_assign rfl) ?_
                        refine ws_nil ?_
                        refine qe_then ?_
                        refine wc_ret ?_
                        refine qe_block_ret ?_
                        refine qe_then_ret ?_
                        refine qe_body _ (.inl rfl) (res1 rfl (RV.tmp rfl)) ?_
                        exact ret_end fun w hp hn ho => by simp only [errR]; (try simp only [cmpP, ne_eq, Decidable.not_not] at *); grind
                    · intro h60
                      refine ws_l rfl rfl rfl rfl (rd_move rfl) ?_
                      refine ws_xskip rfl rfl rfl rfl ?_
                      refine ws_xskip rfl rfl rfl rfl ?_
                      refine ws_xskip rfl rfl rfl rfl ?_
                      refine ws_xskip rfl rfl rfl rfl ?_
                      refine ws_xskip rfl rfl rfl rfl ?_
                      refine ws_xskip rfl rfl rfl rfl ?_
                      refine ws_l rfl rfl rfl rfl (rd_pick_f rfl rfl) ?_
                      refine ws_l rfl rfl rfl rfl (rd_assign rfl) ?_
                      refine ws_nil ?_
                      refine qe_then ?_
                      refine wc_keep [(4, _), (57, _)] rfl ?_
                      refine wc_false rfl ?_
                      refine wc_skip ?_
                      refine qe_block ?_
                      refine qe_then ?_
                      refine wc_seq ?_
                      refine wc_plain [(0, .x true)] (by kernel_rfl) ?_
                      refine ws_l rfl rfl rfl rfl (rd_assign rfl) ?_
                      refine ws_nil ?_
                      refine qe_then ?_
                      refine wc_ret ?_
                      refine qe_body _ (.inl rfl) (res1 rfl (RV.tmp rfl)) ?_
                      exact ret_end fun w hp hn ho => by simp only [errR]; (try simp only [cmpP, ne_eq, Decidable.not_not] at *); grind
            · simp only [if_neg hf2]
              refine ws_r rfl rfl rfl rfl (rd_cmp_t rfl rfl rfl (by simp [cmpP])) ?_
              refine ws_r rfl rfl rfl rfl (rd_pick_f rfl rfl) ?_
              refine ws_r rfl rfl rfl rfl (rd_move rfl) ?_
              refine ws_rskip rfl rfl rfl rfl ?_
              refine ws_rskip rfl rfl rfl rfl ?_
              refine ws_rskip rfl rfl rfl rfl ?_
              refine ws_rskip rfl rfl rfl rfl ?_
              refine ws_rskip rfl rfl rfl rfl ?_
              refine ws_r rfl rfl rfl rfl (rd_pick_t rfl rfl) ?_
              refine ws_r rfl rfl rfl rfl (rd_move rfl) ?_
              refine ws_rskip rfl rfl rfl rfl ?_
              refine ws_rskip rfl rfl rfl rfl ?_
              refine ws_rskip rfl rfl rfl rfl ?_
              refine ws_r rfl rfl rfl rfl (rd_pick_t rfl rfl) ?_
              refine ws_r rfl rfl rfl rfl (rd_move rfl) ?_
              refine ws_rskip rfl rfl rfl rfl ?_
              refine ws_rskip rfl rfl rfl rfl ?_
              refine ws_rskip rfl rfl rfl rfl ?_
              refine ws_rskip rfl rfl rfl rfl ?_
              refine ws_rskip rfl rfl rfl rfl ?_
              refine ws_rskip rfl rfl rfl rfl ?_
              refine ws_late rfl ?_
              refine ws_xskip rfl rfl rfl rfl ?_
              refine ws_l rfl rfl rfl rfl (rd_pick_t rfl rfl) ?_
              refine ws_l rfl rfl rfl rfl (rd_assign rfl) ?_
              refine ws_nil ?_
              refine qe_then ?_
              refine wc_keep [(2, _), (4, _), (25, _)] rfl ?_
              refine wc_true rfl ?_
              refine wc_seq ?_
              refine wc_plain [(0, .x true)] (by kernel_rfl) ?_
              refine ws_l rfl rfl rfl rfl (rd_assign rfl) ?_
              refine ws_nil ?_
              refine qe_then ?_
              refine wc_ret ?_
              refine qe_block_ret ?_
              refine qe_then_ret ?_
              refine qe_body _ (.inl rfl) (res1 rfl (RV.tmp rfl)) ?_
              exact ret_end fun w hp hn ho => by simp only [errR]; (try simp only [cmpP, ne_eq, Decidable.not_not] at *); grind
          · simp only [if_neg hf1]
            refine ws_r rfl rfl rfl rfl (rd_cmp_t rfl rfl rfl (by simp [cmpP])) ?_
            refine ws_r rfl rfl rfl rfl (rd_move rfl) ?_
            refine ws_rskip rfl rfl rfl rfl ?_
            refine ws_rskip rfl rfl rfl rfl ?_
            refine ws_xskip rfl rfl rfl rfl ?_
            refine ws_rskip rfl rfl rfl rfl ?_
            refine ws_r rfl rfl rfl rfl (rd_pick_t rfl rfl) ?_
            refine ws_r rfl rfl rfl rfl (rd_move rfl) ?_
            refine ws_rskip rfl rfl rfl rfl ?_
            refine ws_rskip rfl rfl rfl rfl ?_
            refine ws_rskip rfl rfl rfl rfl ?_
            refine ws_rskip rfl rfl rfl rfl ?_
            refine ws_rskip rfl rfl rfl rfl ?_
            refine ws_r rfl rfl rfl rfl (rd_pick_t rfl rfl) ?_
            refine ws_r rfl rfl rfl rfl (rd_move rfl) ?_
            refine ws_rskip rfl rfl rfl rfl ?_
            refine ws_rskip rfl rfl rfl rfl ?_
            refine ws_rskip rfl rfl rfl rfl ?_
            refine ws_r rfl rfl rfl rfl (rd_pick_t rfl rfl) ?_
            refine ws_r rfl rfl rfl rfl (rd_move rfl) ?_
            refine ws_rskip rfl rfl rfl rfl ?_
            refine ws_rskip rfl rfl rfl rfl ?_
            refine ws_rskip rfl rfl rfl rfl ?_
            refine ws_rskip rfl rfl rfl rfl ?_
            refine ws_rskip rfl rfl rfl rfl ?_
            refine ws_rskip rfl rfl rfl rfl ?_
            refine ws_late rfl ?_
            refine ws_xskip rfl rfl rfl rfl ?_
            refine ws_l rfl rfl rfl rfl (rd_pick_t rfl rfl) ?_
            refine ws_l rfl rfl rfl rfl (rd_assign rfl) ?_
            refine ws_nil ?_
            refine qe_then ?_
            refine wc_keep [(2, _), (4, _), (25, _)] rfl ?_
            refine wc_true rfl ?_
            refine wc_seq ?_
            refine wc_plain [(0, .x true)] (by kernel_rfl) ?_
            refine ws_l rfl rfl rfl rfl (rd_assign rfl) ?_
            refine ws_nil ?_
            refine qe_then ?_
            refine wc_ret ?_
            refine qe_block_ret ?_
            refine qe_then_ret ?_
            refine qe_body _ (.inl rfl) (res1 rfl (RV.tmp rfl)) ?_
            exact ret_end fun w hp hn ho => by simp only [errR]; (try simp only [cmpP, ne_eq, Decidable.not_not] at *); grind
set_option maxRecDepth 100000 in
set_option maxHeartbeats 2000000 in
theorem add_ret (p m k : Nat) (es ws : Array MapEntry) (c d : Nat) (L : RMap) (W : WMap) (own : List RK) (hL : MapIs (idK (n := 32)) rkK es c L) (hW : MapIs plE pvE ws d W) (hok : RingOK L W own) (hlen : own.length < 8192) (id : Id) (x : CT) (y : CM) (w : World) (hη : HpOK (ringP p m k :: ringT m k es c ws d (facts W)) w) (hnd : ((ringP p m k :: ringT m k es c ws d (facts W)).map Prod.fst).Nodup) : Ret Tryz.prog 16 [ptr p, idK id, ctK x, cmK y] w ((ringT m k es c ws d (facts W)).map Prod.fst) (fun u w' => u = I (addE own ⟨id, x.au, x.n, x.p, x.leaf, y.p⟩ y.kind y.n) ∧ RingTo m k (addO own ⟨id, x.au, x.n, x.p, x.leaf, y.p⟩ y.kind y.n) (ringT m k es c ws d (facts W)) w w') := by
  refine enter (n := 44) (args := [ptr p, idK id, ctK x, cmK y]) ((ringT m k es c ws d (facts W)).map Prod.fst) (ringP p m k :: ringT m k es c ws d (facts W)) Tryz.func16 rfl rfl rfl hη hnd ?_
  refine wc_seq ?_
  refine wc_plain [(0, .x true), (1, .x true), (2, .x true), (3, .x true)] (by kernel_rfl) ?_
  refine ws_box rfl rfl rfl rfl ?_
  intro b5 hb5
  refine ws_box rfl rfl rfl rfl ?_
  intro b6 hb6
  refine ws_box rfl rfl rfl rfl ?_
  intro b7 hb7
  refine ws_l rfl rfl rfl rfl (rd_assign rfl) ?_
  refine ws_nil ?_
  refine qe_then ?_
  refine wc_seq ?_
  refine wc_seq ?_
  refine wc_plain [(0, .x true), (1, .x true)] (by kernel_rfl) ?_
  refine ws_l rfl rfl rfl rfl (rd_move rfl) ?_
  refine ws_l rfl rfl rfl rfl (rd_ptr_nil rfl rfl Tryz.underlying24 rfl) ?_
  refine ws_nil ?_
  refine qe_then ?_
  refine wc_false rfl ?_
  refine wc_skip ?_
  refine qe_then ?_
  refine wc_keep [(0, _), (5, _), (6, _), (7, _), (8, _)] rfl ?_
  refine wc_seq ?_
  refine wc_seq ?_
  refine wc_plain [(0, .x true), (1, .x true), (2, .x true), (3, .x true)] (by kernel_rfl) ?_
  refine ws_l rfl rfl rfl rfl (rd_load rfl) ?_
  refine ws_l rfl rfl rfl rfl (rd_load rfl) ?_
  refine ws_callp rfl rfl rfl rfl rfl (En.go) (fun w hp hn ho => check_ret id x y w) ?_
  refine ws_l rfl rfl rfl rfl (rd_assign rfl) ?_
  refine ws_nil ?_
  refine qe_then ?_
  refine wc_seq ?_
  refine wc_plain [(0, .x true), (1, .x true)] (by kernel_rfl) ?_
  refine ws_l rfl rfl rfl rfl (rd_move rfl) ?_
  by_cases he : errR ⟨id, x.au, x.n, x.p, x.leaf, y.p⟩ y.kind y.n = 0
  ·
    refine ws_l rfl rfl rfl rfl (rd_cmp_f rfl rfl rfl (by simp only [cmpP]; omega)) ?_
    refine ws_nil ?_
    refine qe_then ?_
    refine wc_false rfl ?_
    refine wc_skip ?_
    refine qe_then ?_
    refine wc_keep [(0, _), (5, _), (6, _), (7, _), (8, _)] rfl ?_
    refine wc_seq ?_
    refine wc_block ?_
    refine wc_seq ?_
    refine wc_plain [(0, .x true), (1, .x true), (2, .x true), (3, .x true)] (by kernel_rfl) ?_
    refine ws_l rfl rfl rfl rfl (rd_move rfl) ?_
    refine ws_l rfl rfl rfl rfl (rd_load rfl) ?_
    refine ws_callb (decide _) rfl rfl rfl rfl rfl (En.go) (fun w hp hn ho => hask_ret p m k es ws c d L W own hL hW hok hlen id w (hp.mono SubH.mem) (SubH.nd hn)) ?_ ?_
    · intro hhas
      have hhas := of_decide_eq_true hhas
      refine ws_l rfl rfl rfl rfl (rd_assign rfl) ?_
      refine ws_nil ?_
      refine qe_then ?_
      refine wc_true rfl ?_
      refine wc_seq ?_
      refine wc_plain [(0, .x true)] (by kernel_rfl) ?_
      refine ws_l rfl rfl rfl rfl (rd_assign rfl) ?_
      refine ws_nil ?_
      refine qe_then ?_
      refine wc_ret ?_
      refine qe_block_ret ?_
      refine qe_then_ret ?_
      refine qe_body _ (.inl rfl) (res1 rfl (RV.tmp rfl)) ?_
      exact ret_end fun w hp hn ho => ⟨by simp [addE, *], es, c, ws, d, L, W, (hp.mono SubH.mem), SubH.nd hn, fun b hb => .inr hb, hL, hW, by rw [addO, if_neg (by simp [addE, *])]; exact hok⟩
    · intro hhas
      have hhas := of_decide_eq_false hhas
      have hf : mlook L id = none := by cases hl : mlook L id with | none => rfl | some y => exact absurd ⟨_, hok.look hl⟩ hhas
      refine ws_l rfl rfl rfl rfl (rd_assign rfl) ?_
      refine ws_nil ?_
      refine qe_then ?_
      refine wc_false rfl ?_
      refine wc_seq ?_
      refine wc_plain [(0, .x true), (1, .x true), (2, .x true), (3, .x true), (4, .x true), (5, .x true), (6, .x true)] (by kernel_rfl) ?_
      refine ws_l rfl rfl rfl rfl (rd_move rfl) ?_
      refine ws_l rfl rfl rfl rfl (rd_nil rfl) ?_
      refine ws_l rfl rfl rfl rfl (rd_fieldAddr rfl) ?_
      refine ws_l rfl rfl rfl rfl (rd_load rfl) ?_
      refine ws_l rfl rfl rfl rfl (rd_lenmap (ek := idK (n := 32)) (en := rkK) hL Tryz.underlying90 rfl) ?_
      refine ws_l rfl rfl rfl rfl (rd_cmp_f rfl rfl rfl (by simp only [cmpP]; rw [hok.len]; omega)) ?_
      refine ws_l rfl rfl rfl rfl (rd_assign rfl) ?_
      refine ws_nil ?_
      refine qe_then ?_
      refine wc_keep [(0, _), (5, _), (6, _), (7, _), (8, _), (22, _)] rfl ?_
      refine wc_false rfl ?_
      refine wc_skip ?_
      refine qe_block ?_
      refine qe_then ?_
      refine wc_seq ?_
      refine wc_plain [(0, .x true), (1, .x true), (2, .x true), (3, .x true), (4, .x true), (5, .x true), (6, .x true), (7, .x true), (8, .x true), (9, .x true), (10, .x true), (11, .x true), (12, .x true), (13, .x true), (14, .x true)] (by kernel_rfl) ?_
      refine ws_l rfl rfl rfl rfl (rd_move rfl) ?_
      refine ws_l rfl rfl rfl rfl (rd_load rfl) ?_
      refine ws_l rfl rfl rfl rfl (rd_fieldAddr rfl) ?_
      refine ws_l rfl rfl rfl rfl (rd_load rfl) ?_
      refine ws_l rfl rfl rfl rfl (rd_fieldAddr rfl) ?_
      refine ws_l rfl rfl rfl rfl (rd_load rfl) ?_
      refine ws_l rfl rfl rfl rfl (rd_fieldAddr rfl) ?_
      refine ws_l rfl rfl rfl rfl (rd_load rfl) ?_
      refine ws_l rfl rfl rfl rfl (rd_build rfl) ?_
      refine ws_l rfl rfl rfl rfl (rd_fieldAddr rfl) ?_
      refine ws_l rfl rfl rfl rfl (rd_load rfl) ?_
      refine ws_l rfl rfl rfl rfl (rd_fieldAddr rfl) ?_
      refine ws_l rfl rfl rfl rfl (rd_load rfl) ?_
      refine ws_l rfl rfl rfl rfl (rd_build rfl) ?_
      refine ws_callV (ringT m k es c ws d (facts W)) rfl rfl rfl rfl rfl (En.go) (fun w hp hn ho => put_ret p m k es ws c d L W own hL hW hok hlen ⟨id, x.au, x.n, x.p, x.leaf, y.p⟩ (errR_ok he) hf w (hp.mono SubH.mem) (SubH.nd hn)) (fun b hb => .inr hb) (fun hh q h => by first | (cases h; done) | exact hh q h | (simp only [List.mem_append, List.mem_cons] at h ⊢; grind) | skip) ?_
      rintro v43 wa wb hpo hon hon2 hp1 ⟨es1, c1, ws1, d1, L1, W1, hp2, hnd2, hfar2, hL1, hW1, hok1⟩
      refine ⟨ringT m k es1 c1 ws1 d1 (facts W1), hp2, hnd2, hfar2, ?_⟩
      simp only [List.cons_append]
      replace hfar2 : ∀ b ∈ (ringT m k es1 c1 ws1 d1 (facts W1)).map Prod.fst, _ ∨ _ := fun b hb => (hfar2 b hb).imp (Nat.le_trans hon.size) (fun h => h)
      refine ws_nil ?_
      refine qe_then ?_
      refine wc_keep [(8, _)] rfl ?_
      refine wc_seq ?_
      refine wc_plain [(0, .x true)] (by kernel_rfl) ?_
      refine ws_l rfl rfl rfl rfl (rd_assign rfl) ?_
      refine ws_nil ?_
      refine qe_then ?_
      refine wc_ret ?_
      refine qe_body _ (.inl rfl) (res1 rfl (RV.tmp rfl)) ?_
      exact ret_end fun w hp hn ho => ⟨by simp [addE, *], es1, c1, ws1, d1, L1, W1, (hp.mono SubH.mem), SubH.nd hn, hfar2, hL1, hW1, by rw [addO, if_pos (by simp [addE, *])]; exact hok1⟩
  ·
    refine ws_l rfl rfl rfl rfl (rd_cmp_t rfl rfl rfl (by simp only [cmpP]; omega)) ?_
    refine ws_nil ?_
    refine qe_then ?_
    refine wc_true rfl ?_
    refine wc_seq ?_
    refine wc_plain [(0, .x true), (1, .x true)] (by kernel_rfl) ?_
    refine ws_l rfl rfl rfl rfl (rd_move rfl) ?_
    refine ws_l rfl rfl rfl rfl (rd_assign rfl) ?_
    refine ws_nil ?_
    refine qe_then ?_
    refine wc_keep [(0, _), (5, _), (6, _), (7, _), (8, _)] rfl ?_
    refine wc_ret ?_
    refine qe_then_ret ?_
    refine qe_body _ (.inl rfl) (res1 rfl (RV.tmp rfl)) ?_
    exact ret_end fun w hp hn ho => ⟨by simp [addE, *], es, c, ws, d, L, W, (hp.mono SubH.mem), SubH.nd hn, fun b hb => .inr hb, hL, hW, by rw [addO, if_neg (by simp [addE, *])]; exact hok⟩
set_option maxRecDepth 100000 in
set_option maxHeartbeats 8000000 in
theorem add_ref (v : Value) (φ : Heap) (l : List RK) (hsrc : Src φ v 84 l.length (l.flatMap rkL)) (hlen : l.length < 1048576) (h8 : l.length < 8192) (r : RK) (kind to : Int) (w : World) (hφ : HpOK φ w) (hnd : (φ.map Prod.fst).Nodup) : Ret Tryz.prog 44 [v, rkK r, I kind, I to] w [] (fun u w' => ∃ (u1 : Value), u = .tuple #[u1, I (addE l r kind to)] ∧ ((addE l r kind to ≠ 0 ∧ u1 = v) ∨ (addE l r kind to = 0 ∧ ∃ (ν' : Heap), OwnR w.heap.size 53 84 u1 ν' (l ++ [r]).length ((l ++ [r]).flatMap rkL) ∧ HpOK ν' w'))) := by
  refine enter (n := 89) (args := [v, rkK r, I kind, I to]) [] φ Tryz.func44 rfl rfl rfl hφ hnd ?_
  refine wc_seq ?_
  refine wc_plain [(0, .x true), (1, .x true), (2, .x true)] (by kernel_rfl) ?_
  refine ws_box rfl rfl rfl rfl ?_
  intro b5 hb5
  refine ws_l rfl rfl rfl rfl (rd_assign rfl) ?_
  refine ws_l rfl rfl rfl rfl (rd_assign rfl) ?_
  refine ws_nil ?_
  refine qe_then ?_
  refine wc_seq ?_
  refine wc_block ?_
  refine wc_seq ?_
  refine wc_plain [(0, .x true), (1, .x true), (2, .x true)] (by kernel_rfl) ?_
  refine ws_l rfl rfl rfl rfl (rd_move rfl) ?_
  refine ws_lcmp rfl rfl rfl (rfl) (rfl) (rfl) ?_ ?_
  · intro h12
    refine ws_l rfl rfl rfl rfl (rd_assign rfl) ?_
    refine ws_nil ?_
    refine qe_then ?_
    refine wc_true rfl ?_
    refine wc_seq ?_
    refine wc_plain [(0, .x true), (1, .x true), (2, .x true)] (by kernel_rfl) ?_
    refine ws_l rfl rfl rfl rfl (rd_move rfl) ?_
    refine ws_l rfl rfl rfl rfl (rd_assign rfl) ?_
    refine ws_l rfl rfl rfl rfl (rd_assign rfl) ?_
    refine ws_nil ?_
    refine qe_then ?_
    refine wc_keep [(0, _), (5, _), (8, _), (9, _)] rfl ?_
    refine wc_ret ?_
    refine qe_block_ret ?_
    refine qe_then_ret ?_
    refine qe_body _ (.inl rfl) (res2 rfl (RV.tmp rfl) (RV.tmp rfl)) ?_
    have hE : addE l r kind to = 11 := (by simp only [addE, errR]; (try simp only [cmpP, ne_eq, Decidable.not_not] at *); grind)
    exact ret_end fun w hp hn ho => ⟨_, by rw [hE], .inl ⟨by rw [hE]; omega, rfl⟩⟩
  · intro h12
    refine ws_l rfl rfl rfl rfl (rd_assign rfl) ?_
    refine ws_nil ?_
    refine qe_then ?_
    refine wc_false rfl ?_
    refine wc_seq ?_
    refine wc_plain [(0, .x true), (1, .x true), (2, .x true), (3, .x true), (4, .x true), (5, .x true), (6, .x true), (7, .x true), (8, .x true)] (by kernel_rfl) ?_
    refine ws_l rfl rfl rfl rfl (rd_fieldAddr rfl) ?_
    refine ws_l rfl rfl rfl rfl (rd_load rfl) ?_
    refine ws_lcmp rfl rfl rfl (rfl) (rfl) (rfl) ?_ ?_
    · intro h17
      refine ws_l rfl rfl rfl rfl (rd_move rfl) ?_
      refine ws_xskip rfl rfl rfl rfl ?_
      refine ws_xskip rfl rfl rfl rfl ?_
      refine ws_xskip rfl rfl rfl rfl ?_
      refine ws_l rfl rfl rfl rfl (rd_pick_t rfl rfl) ?_
      refine ws_l rfl rfl rfl rfl (rd_assign rfl) ?_
      refine ws_nil ?_
      refine qe_then ?_
      refine wc_keep [(0, _), (3, _), (5, _), (8, _), (9, _), (14, _)] rfl ?_
      refine wc_true rfl ?_
      refine wc_seq ?_
      refine wc_plain [(0, .x true), (1, .x true), (2, .x true)] (by kernel_rfl) ?_
      refine ws_l rfl rfl rfl rfl (rd_move rfl) ?_
      refine ws_l rfl rfl rfl rfl (rd_assign rfl) ?_
      refine ws_l rfl rfl rfl rfl (rd_assign rfl) ?_
      refine ws_nil ?_
      refine qe_then ?_
      refine wc_ret ?_
      refine qe_block_ret ?_
      refine qe_then_ret ?_
      refine qe_body _ (.inl rfl) (res2 rfl (RV.tmp rfl) (RV.tmp rfl)) ?_
      have hE : addE l r kind to = 2 := (by simp only [addE, errR]; (try simp only [cmpP, ne_eq, Decidable.not_not] at *); grind)
      exact ret_end fun w hp hn ho => ⟨_, by rw [hE], .inl ⟨by rw [hE]; omega, rfl⟩⟩
    · intro h17
      refine ws_l rfl rfl rfl rfl (rd_move rfl) ?_
      refine ws_l rfl rfl rfl rfl (rd_fieldAddr rfl) ?_
      refine ws_l rfl rfl rfl rfl (rd_load rfl) ?_
      refine ws_lcmp rfl rfl rfl (rfl) (rfl) (rfl) ?_ ?_
      · intro h21
        refine ws_l rfl rfl rfl rfl (rd_pick_f rfl rfl) ?_
        refine ws_l rfl rfl rfl rfl (rd_assign rfl) ?_
        refine ws_nil ?_
        refine qe_then ?_
        refine wc_keep [(0, _), (3, _), (5, _), (8, _), (9, _), (14, _)] rfl ?_
        refine wc_true rfl ?_
        refine wc_seq ?_
        refine wc_plain [(0, .x true), (1, .x true), (2, .x true)] (by kernel_rfl) ?_
        refine ws_l rfl rfl rfl rfl (rd_move rfl) ?_
        refine ws_l rfl rfl rfl rfl (rd_assign rfl) ?_
        refine ws_l rfl rfl rfl rfl (rd_assign rfl) ?_
        refine ws_nil ?_
        refine qe_then ?_
        refine wc_ret ?_
        refine qe_block_ret ?_
        refine qe_then_ret ?_
        refine qe_body _ (.inl rfl) (res2 rfl (RV.tmp rfl) (RV.tmp rfl)) ?_
        have hE : addE l r kind to = 2 := (by simp only [addE, errR]; (try simp only [cmpP, ne_eq, Decidable.not_not] at *); grind)
        exact ret_end fun w hp hn ho => ⟨_, by rw [hE], .inl ⟨by rw [hE]; omega, rfl⟩⟩
      · intro h21
        refine ws_l rfl rfl rfl rfl (rd_pick_f rfl rfl) ?_
        refine ws_l rfl rfl rfl rfl (rd_assign rfl) ?_
        refine ws_nil ?_
        refine qe_then ?_
        refine wc_keep [(0, _), (3, _), (5, _), (8, _), (9, _), (14, _)] rfl ?_
        refine wc_false rfl ?_
        refine wc_seq ?_
        refine wc_plain [(0, .x true), (1, .x true), (2, .x true), (3, .x true), (4, .x true), (5, .x true)] (by kernel_rfl) ?_
        refine ws_l rfl rfl rfl rfl (rd_move rfl) ?_
        refine ws_l rfl rfl rfl rfl (rd_fieldAddr rfl) ?_
        refine ws_l rfl rfl rfl rfl (rd_load rfl) ?_
        refine ws_l rfl rfl rfl rfl (rd_arith (r.n + 1) rfl rfl rfl (by simp only [cmpP] at h17 h21; exact wrap_i64 _ (by omega) (by omega))) ?_
        refine ws_lcmp rfl rfl rfl (rfl) (rfl) (rfl) ?_ ?_
        · intro h29
          refine ws_l rfl rfl rfl rfl (rd_assign rfl) ?_
          refine ws_nil ?_
          refine qe_then ?_
          refine wc_keep [(0, _), (5, _), (8, _), (9, _), (24, _)] rfl ?_
          refine wc_true rfl ?_
          refine wc_seq ?_
          refine wc_plain [(0, .x true), (1, .x true), (2, .x true)] (by kernel_rfl) ?_
          refine ws_l rfl rfl rfl rfl (rd_move rfl) ?_
          refine ws_l rfl rfl rfl rfl (rd_assign rfl) ?_
          refine ws_l rfl rfl rfl rfl (rd_assign rfl) ?_
          refine ws_nil ?_
          refine qe_then ?_
          refine wc_ret ?_
          refine qe_block_ret ?_
          refine qe_then_ret ?_
          refine qe_body _ (.inl rfl) (res2 rfl (RV.tmp rfl) (RV.tmp rfl)) ?_
          have hE : addE l r kind to = 30 := (by simp only [addE, errR]; (try simp only [cmpP, ne_eq, Decidable.not_not] at *); grind)
          exact ret_end fun w hp hn ho => ⟨_, by rw [hE], .inl ⟨by rw [hE]; omega, rfl⟩⟩
        · intro h29
          refine ws_l rfl rfl rfl rfl (rd_assign rfl) ?_
          refine ws_nil ?_
          refine qe_then ?_
          refine wc_keep [(0, _), (5, _), (8, _), (9, _), (24, _)] rfl ?_
          refine wc_false rfl ?_
          refine wc_seq ?_
          refine wc_drawn mixedT _ (fun _ h => h) [(0, .r), (1, .r), (2, .x false), (3, .r), (4, .r), (5, .r), (6, .r), (7, .x false), (8, .r), (9, .r), (10, .r), (11, .r), (12, .r), (13, .r), (14, .r), (15, .r), (16, .r), (17, .r), (18, .r), (19, .r), (20, .r), (21, .r), (22, .r), (23, .r), (24, .r), (25, .r), (26, .r), (27, .r), (28, .r), (29, .x true), (30, .x true), (31, .x true)] (by kernel_rfl) ?_
          refine ws_r rfl rfl rfl rfl (rd_fieldAddr rfl) ?_
          refine ws_r rfl rfl rfl rfl (rd_load rfl) ?_
          refine ws_callb (decide _) rfl rfl rfl rfl rfl (En.go) (fun w hp hn ho => fine_ref r.p w) ?_ ?_
          · intro hf1
            have hf1 := of_decide_eq_true hf1
            refine ws_r rfl rfl rfl rfl (rd_not rfl) ?_
            refine ws_r rfl rfl rfl rfl (rd_move rfl) ?_
            refine ws_r rfl rfl rfl rfl (rd_fieldAddr rfl) ?_
            refine ws_r rfl rfl rfl rfl (rd_load rfl) ?_
            refine ws_callb (decide _) rfl rfl rfl rfl rfl (En.go) (fun w hp hn ho => fine_ref r.q w) ?_ ?_
            · intro hf2
              have hf2 := of_decide_eq_true hf2
              refine ws_r rfl rfl rfl rfl (rd_not rfl) ?_
              refine ws_r rfl rfl rfl rfl (rd_pick_f rfl rfl) ?_
              refine ws_r rfl rfl rfl rfl (rd_move rfl) ?_
              refine ws_r rfl rfl rfl rfl (rd_fieldAddr rfl) ?_
              refine ws_r rfl rfl rfl rfl (rd_load rfl) ?_
              refine ws_r rfl rfl rfl rfl (rd_fieldAddr rfl) ?_
              refine ws_r rfl rfl rfl rfl (rd_load rfl) ?_
              refine ws_rp _ rfl rfl rfl rfl (rd_eql31 rfl rfl) ?_ ?_
              · intro h47
                refine ws_r rfl rfl rfl rfl (rd_pick_f rfl rfl) ?_
                refine ws_r rfl rfl rfl rfl (rd_move rfl) ?_
                refine ws_rskip rfl rfl rfl rfl ?_
                refine ws_rskip rfl rfl rfl rfl ?_
                refine ws_rskip rfl rfl rfl rfl ?_
                refine ws_r rfl rfl rfl rfl (rd_pick_t rfl rfl) ?_
                refine ws_r rfl rfl rfl rfl (rd_move rfl) ?_
                refine ws_rskip rfl rfl rfl rfl ?_
                refine ws_rskip rfl rfl rfl rfl ?_
                refine ws_rskip rfl rfl rfl rfl ?_
                refine ws_rskip rfl rfl rfl rfl ?_
                refine ws_rskip rfl rfl rfl rfl ?_
                refine ws_rskip rfl rfl rfl rfl ?_
                refine ws_late rfl ?_
                refine ws_xskip rfl rfl rfl rfl ?_
                refine ws_l rfl rfl rfl rfl (rd_pick_t rfl rfl) ?_
                refine ws_l rfl rfl rfl rfl (rd_assign rfl) ?_
                refine ws_nil ?_
                refine qe_then ?_
                refine wc_keep [(0, _), (5, _), (8, _), (9, _), (31, _)] rfl ?_
                refine wc_true rfl ?_
                refine wc_seq ?_
                refine wc_plain [(0, .x true), (1, .x true), (2, .x true)] (by kernel_rfl) ?_
                refine ws_l rfl rfl rfl rfl (rd_move rfl) ?_
                refine ws_l rfl rfl rfl rfl (rd_assign rfl) ?_
                refine ws_l rfl rfl rfl rfl (rd_assign rfl) ?_
                refine ws_nil ?_
                refine qe_then ?_
                refine wc_ret ?_
                refine qe_block_ret ?_
                refine qe_then_ret ?_
                refine qe_body _ (.inl rfl) (res2 rfl (RV.tmp rfl) (RV.tmp rfl)) ?_
                have hE : addE l r kind to = 18 := (by simp only [addE, errR]; (try simp only [cmpP, ne_eq, Decidable.not_not] at *); grind)
                exact ret_end fun w hp hn ho => ⟨_, by rw [hE], .inl ⟨by rw [hE]; omega, rfl⟩⟩
              · intro h47
                refine ws_r rfl rfl rfl rfl (rd_pick_f rfl rfl) ?_
                refine ws_r rfl rfl rfl rfl (rd_move rfl) ?_
                refine ws_r rfl rfl rfl rfl (rd_fieldAddr rfl) ?_
                refine ws_r rfl rfl rfl rfl (rd_load rfl) ?_
                refine ws_rcmp rfl rfl rfl (rfl) (rfl) (rfl) ?_ ?_
                · intro h52
                  refine ws_r rfl rfl rfl rfl (rd_pick_f rfl rfl) ?_
                  refine ws_r rfl rfl rfl rfl (rd_move rfl) ?_
                  refine ws_rskip rfl rfl rfl rfl ?_
                  refine ws_rskip rfl rfl rfl rfl ?_
                  refine ws_rskip rfl rfl rfl rfl ?_
                  refine ws_rskip rfl rfl rfl rfl ?_
                  refine ws_rskip rfl rfl rfl rfl ?_
                  refine ws_rskip rfl rfl rfl rfl ?_
                  refine ws_late rfl ?_
                  refine ws_xskip rfl rfl rfl rfl ?_
                  refine ws_l rfl rfl rfl rfl (rd_pick_t rfl rfl) ?_
                  refine ws_l rfl rfl rfl rfl (rd_assign rfl) ?_
                  refine ws_nil ?_
                  refine qe_then ?_
                  refine wc_keep [(0, _), (5, _), (8, _), (9, _), (31, _)] rfl ?_
                  refine wc_true rfl ?_
                  refine wc_seq ?_
                  refine wc_plain [(0, .x true), (1, .x true), (2, .x true)] (by kernel_rfl) ?_
                  refine ws_l rfl rfl rfl rfl (rd_move rfl) ?_
                  refine ws_l rfl rfl rfl rfl (rd_assign rfl) ?_
                  refine ws_l rfl rfl rfl rfl (rd_assign rfl) ?_
                  refine ws_nil ?_
                  refine qe_then ?_
                  refine wc_ret ?_
                  refine qe_block_ret ?_
                  refine qe_then_ret ?_
                  refine qe_body _ (.inl rfl) (res2 rfl (RV.tmp rfl) (RV.tmp rfl)) ?_
                  have hE : addE l r kind to = 18 := (by simp only [addE, errR]; (try simp only [cmpP, ne_eq, Decidable.not_not] at *); grind)
                  exact ret_end fun w hp hn ho => ⟨_, by rw [hE], .inl ⟨by rw [hE]; omega, rfl⟩⟩
                · intro h52
                  refine ws_r rfl rfl rfl rfl (rd_pick_f rfl rfl) ?_
                  refine ws_r rfl rfl rfl rfl (rd_move rfl) ?_
                  refine ws_r rfl rfl rfl rfl (rd_fieldAddr rfl) ?_
                  refine ws_r rfl rfl rfl rfl (rd_load rfl) ?_
                  refine ws_r rfl rfl rfl rfl (rd_fieldAddr rfl) ?_
                  refine ws_r rfl rfl rfl rfl (rd_fieldAddr rfl) ?_
                  refine ws_r rfl rfl rfl rfl (rd_load rfl) ?_
                  refine ws_r rfl rfl rfl rfl (rd_shl ((2 : Int) ^ r.p.h.toNat) rfl rfl (by have := (hf1).1; omega) (shl_h (hf1).1 (hf1).2)) ?_
                  refine ws_late rfl ?_
                  refine ws_lcmp rfl rfl rfl (rfl) (rfl) (rfl) ?_ ?_
                  · intro h61
                    refine ws_l rfl rfl rfl rfl (rd_pick_f rfl rfl) ?_
                    refine ws_l rfl rfl rfl rfl (rd_assign rfl) ?_
                    refine ws_nil ?_
                    refine qe_then ?_
                    refine wc_keep [(0, _), (5, _), (8, _), (9, _), (31, _)] rfl ?_
                    refine wc_true rfl ?_
                    refine wc_seq ?_
                    refine wc_plain [(0, .x true), (1, .x true), (2, .x true)] (by kernel_rfl) ?_
                    refine ws_l rfl rfl rfl rfl (rd_move rfl) ?_
                    refine ws_l rfl rfl rfl rfl (rd_assign rfl) ?_
                    refine ws_l rfl rfl rfl rfl (rd_assign rfl) ?_
                    refine ws_nil ?_
                    refine qe_then ?_
                    refine wc_ret ?_
                    refine qe_block_ret ?_
                    refine qe_then_ret ?_
                    refine qe_body _ (.inl rfl) (res2 rfl (RV.tmp rfl) (RV.tmp rfl)) ?_
                    have hE : addE l r kind to = 18 := (by simp only [addE, errR]; (try simp only [cmpP, ne_eq, Decidable.not_not] at *); grind)
                    exact ret_end fun w hp hn ho => ⟨_, by rw [hE], .inl ⟨by rw [hE]; omega, rfl⟩⟩
                  · intro h61
                    refine ws_l rfl rfl rfl rfl (rd_pick_f rfl rfl) ?_
                    refine ws_l rfl rfl rfl rfl (rd_assign rfl) ?_
                    refine ws_nil ?_
                    refine qe_then ?_
                    refine wc_keep [(0, _), (5, _), (8, _), (9, _), (31, _)] rfl ?_
                    refine wc_false rfl ?_
                    refine wc_seq ?_
                    refine wc_drawn mixedT _ (fun _ h => h) [(0, .r), (1, .r), (2, .r), (3, .r), (4, .r), (5, .r), (7, .r), (8, .r), (6, .x false), (9, .x true), (10, .x true), (11, .x true)] (by kernel_rfl) ?_
                    refine ws_r rfl rfl rfl rfl (rd_fieldAddr rfl) ?_
                    refine ws_r rfl rfl rfl rfl (rd_load rfl) ?_
                    refine ws_rcmp rfl rfl rfl (rfl) (rfl) (rfl) ?_ ?_
                    · intro h67
                      refine ws_r rfl rfl rfl rfl (rd_move rfl) ?_
                      refine ws_r rfl rfl rfl rfl (rd_fieldAddr rfl) ?_
                      refine ws_r rfl rfl rfl rfl (rd_load rfl) ?_
                      refine ws_r rfl rfl rfl rfl (rd_fieldAddr rfl) ?_
                      refine ws_r rfl rfl rfl rfl (rd_load rfl) ?_
                      refine ws_callp rfl rfl rfl rfl rfl (En.go) (fun w hp hn ho => of_ref r.p w) ?_
                      refine ws_late rfl ?_
                      refine ws_lp _ rfl rfl rfl rfl (rd_neid rfl rfl Tryz.underlying28 (by kernel_rfl)) ?_ ?_
                      · intro h74
                        refine ws_l rfl rfl rfl rfl (rd_pick_t rfl rfl) ?_
                        refine ws_l rfl rfl rfl rfl (rd_assign rfl) ?_
                        refine ws_nil ?_
                        refine qe_then ?_
                        refine wc_keep [(0, _), (5, _), (8, _), (9, _), (64, _)] rfl ?_
                        refine wc_true rfl ?_
                        refine wc_seq ?_
                        refine wc_plain [(0, .x true), (1, .x true), (2, .x true)] (by kernel_rfl) ?_
                        refine ws_l rfl rfl rfl rfl (rd_move rfl) ?_
                        refine ws_l rfl rfl rfl rfl (rd_assign rfl) ?_
                        refine ws_l rfl rfl rfl rfl (rd_assign rfl) ?_
                        refine ws_nil ?_
                        refine qe_then ?_
                        refine wc_ret ?_
                        refine qe_block_ret ?_
                        refine qe_then_ret ?_
                        refine qe_body _ (.inl rfl) (res2 rfl (RV.tmp rfl) (RV.tmp rfl)) ?_
                        have hE : addE l r kind to = 20 := (by simp only [addE, errR]; (try simp only [cmpP, ne_eq, Decidable.not_not] at *); grind)
                        exact ret_end fun w hp hn ho => ⟨_, by rw [hE], .inl ⟨by rw [hE]; omega, rfl⟩⟩
                      · intro h74
                        refine ws_l rfl rfl rfl rfl (rd_pick_t rfl rfl) ?_
                        refine ws_l rfl rfl rfl rfl (rd_assign rfl) ?_
                        refine ws_nil ?_
                        refine qe_then ?_
                        refine wc_keep [(0, _), (5, _), (8, _), (9, _), (64, _)] rfl ?_
                        refine wc_false rfl ?_
                        refine wc_seq ?_
                        refine wc_plain [(0, .x true), (1, .x true), (2, .x true), (3, .x true), (4, .x true)] (by kernel_rfl) ?_
                        refine ws_l rfl rfl rfl rfl (rd_move rfl) ?_
                        refine ws_l rfl rfl rfl rfl (rd_fieldAddr rfl) ?_
                        refine ws_l rfl rfl rfl rfl (rd_load rfl) ?_
                        refine ws_callb (decide _) rfl rfl rfl rfl rfl (En.go) (fun w hp hn ho => has_ref v φ l hsrc hlen r.id w (hp.mono SubH.mem) hnd) ?_ ?_
                        · intro hhas
                          have hhas := of_decide_eq_true hhas
                          refine ws_l rfl rfl rfl rfl (rd_assign rfl) ?_
                          refine ws_nil ?_
                          refine qe_then ?_
                          refine wc_keep [(0, _), (5, _), (8, _), (9, _), (77, _)] rfl ?_
                          refine wc_true rfl ?_
                          refine wc_seq ?_
                          refine wc_plain [(0, .x true), (1, .x true), (2, .x true)] (by kernel_rfl) ?_
                          refine ws_l rfl rfl rfl rfl (rd_move rfl) ?_
                          refine ws_l rfl rfl rfl rfl (rd_assign rfl) ?_
                          refine ws_l rfl rfl rfl rfl (rd_assign rfl) ?_
                          refine ws_nil ?_
                          refine qe_then ?_
                          refine wc_ret ?_
                          refine qe_block_ret ?_
                          refine qe_then_ret ?_
                          refine qe_body _ (.inl rfl) (res2 rfl (RV.tmp rfl) (RV.tmp rfl)) ?_
                          have hE : addE l r kind to = 7 := (by simp only [addE, errR]; (try simp only [cmpP, ne_eq, Decidable.not_not] at *); grind)
                          exact ret_end fun w hp hn ho => ⟨_, by rw [hE], .inl ⟨by rw [hE]; omega, rfl⟩⟩
                        · intro hhas
                          have hhas := of_decide_eq_false hhas
                          refine ws_l rfl rfl rfl rfl (rd_assign rfl) ?_
                          refine ws_nil ?_
                          refine qe_then ?_
                          refine wc_keep [(0, _), (5, _), (8, _), (9, _), (77, _)] rfl ?_
                          refine wc_false rfl ?_
                          refine wc_skip ?_
                          refine qe_block ?_
                          refine qe_then ?_
                          refine wc_seq ?_
                          refine wc_drawnO mixedT _ (fun _ h => h) (.r 1 (.r 3 (.b 0 4 (.b 2 4 (.seq [(4, .x false), (5, .x true), (6, .x true), (7, .x true)]) (.seq [(2, .x false), (5, .x true), (6, .x true), (7, .x true)])) (.seq [(0, .x false), (2, .x false), (5, .x true), (6, .x true), (7, .x true)])))) (by kernel_rfl) ?_
                          refine od_r ?_
                          refine ws_r rfl rfl rfl rfl (rd_move rfl) ?_
                          refine od_go ?_
                          refine od_r ?_
                          refine ws_r rfl rfl rfl rfl (rd_load rfl) ?_
                          refine od_go ?_
                          refine od_b ?_ ?_
                          ·
                            refine ws_buildSlice rfl rfl rfl rfl ?_
                            intro b83 hb83
                            have hlit0 := OwnR.lit0 (E := 53) (k := 84) hb83
                            refine od_go ?_
                            refine od_b ?_ ?_
                            ·
                              refine ws_appendS rfl rfl rfl rfl rfl hlit0 (hsrc.mono (fun _ h => by simp [h])) (fun u hu => by obtain ⟨y, _, hy⟩ := List.mem_flatMap.1 hu; exact rkL_one y u hy) (by simp only [maxLen]; omega) (by omega) (fun _ _ _ h => by first | (cases h; done) | (simp only [List.mem_append, List.mem_cons] at h ⊢; grind) | skip) ?_
                              intro va νa howna
                              refine od_go ?_
                              refine od_seq ?_
                              refine ws_buildSlice rfl rfl rfl rfl ?_
                              intro b87 hb87
                              refine ws_late rfl ?_
                              have hadd : addE l r kind to = 0 := (by simp only [addE, errR]; (try simp only [cmpP, ne_eq, Decidable.not_not] at *); grind)
                              refine ws_append rfl rfl rfl rfl rfl howna (by simp [rkC_size]) (rkC_one r) (by simp only [maxLen]; omega) (by omega) (fun _ _ _ h => by first | (cases h; done) | (simp only [List.mem_append, List.mem_cons] at h ⊢; grind) | skip) ?_
                              intro v3' ν3' hown3'
                              refine ws_l rfl rfl rfl rfl (rd_assign rfl) ?_
                              refine ws_l rfl rfl rfl rfl (rd_assign rfl) ?_
                              refine ws_nil ?_
                              refine qe_then ?_
                              refine wc_keep [(8, _), (9, _)] rfl ?_
                              refine wc_ret ?_
                              refine qe_body _ (.inl rfl) (res2 rfl (RV.tmp rfl) (RV.tmp rfl)) ?_
                              exact ret_end fun w hp hn ho => ⟨_, by rw [hadd], .inr ⟨hadd, ν3', by simpa [List.flatMap_append] using hown3', (hp.mono SubH.mem)⟩⟩
                            ·
                              refine ws_buildSlice rfl rfl rfl rfl ?_
                              intro b87 hb87
                              refine od_go ?_
                              refine od_seq ?_
                              refine ws_appendS rfl rfl rfl rfl rfl hlit0 (hsrc.mono (fun _ h => by simp [h])) (fun u hu => by obtain ⟨y, _, hy⟩ := List.mem_flatMap.1 hu; exact rkL_one y u hy) (by simp only [maxLen]; omega) (by omega) (fun _ _ _ h => by first | (cases h; done) | (simp only [List.mem_append, List.mem_cons] at h ⊢; grind) | skip) ?_
                              intro va νa howna
                              refine ws_late rfl ?_
                              have hadd : addE l r kind to = 0 := (by simp only [addE, errR]; (try simp only [cmpP, ne_eq, Decidable.not_not] at *); grind)
                              refine ws_append rfl rfl rfl rfl rfl howna (by simp [rkC_size]) (rkC_one r) (by simp only [maxLen]; omega) (by omega) (fun _ _ _ h => by first | (cases h; done) | (simp only [List.mem_append, List.mem_cons] at h ⊢; grind) | skip) ?_
                              intro v3' ν3' hown3'
                              refine ws_l rfl rfl rfl rfl (rd_assign rfl) ?_
                              refine ws_l rfl rfl rfl rfl (rd_assign rfl) ?_
                              refine ws_nil ?_
                              refine qe_then ?_
                              refine wc_keep [(8, _), (9, _)] rfl ?_
                              refine wc_ret ?_
                              refine qe_body _ (.inl rfl) (res2 rfl (RV.tmp rfl) (RV.tmp rfl)) ?_
                              exact ret_end fun w hp hn ho => ⟨_, by rw [hadd], .inr ⟨hadd, ν3', by simpa [List.flatMap_append] using hown3', (hp.mono SubH.mem)⟩⟩
                          ·
                            refine ws_buildSlice rfl rfl rfl rfl ?_
                            intro b87 hb87
                            refine od_go ?_
                            refine od_seq ?_
                            refine ws_buildSlice rfl rfl rfl rfl ?_
                            intro b83 hb83
                            have hlit0 := OwnR.lit0 (E := 53) (k := 84) hb83
                            refine ws_appendS rfl rfl rfl rfl rfl hlit0 (hsrc.mono (fun _ h => by simp [h])) (fun u hu => by obtain ⟨y, _, hy⟩ := List.mem_flatMap.1 hu; exact rkL_one y u hy) (by simp only [maxLen]; omega) (by omega) (fun _ _ _ h => by first | (cases h; done) | (simp only [List.mem_append, List.mem_cons] at h ⊢; grind) | skip) ?_
                            intro va νa howna
                            refine ws_late rfl ?_
                            have hadd : addE l r kind to = 0 := (by simp only [addE, errR]; (try simp only [cmpP, ne_eq, Decidable.not_not] at *); grind)
                            refine ws_append rfl rfl rfl rfl rfl howna (by simp [rkC_size]) (rkC_one r) (by simp only [maxLen]; omega) (by omega) (fun _ _ _ h => by first | (cases h; done) | (simp only [List.mem_append, List.mem_cons] at h ⊢; grind) | skip) ?_
                            intro v3' ν3' hown3'
                            refine ws_l rfl rfl rfl rfl (rd_assign rfl) ?_
                            refine ws_l rfl rfl rfl rfl (rd_assign rfl) ?_
                            refine ws_nil ?_
                            refine qe_then ?_
                            refine wc_keep [(8, _), (9, _)] rfl ?_
                            refine wc_ret ?_
                            refine qe_body _ (.inl rfl) (res2 rfl (RV.tmp rfl) (RV.tmp rfl)) ?_
                            exact ret_end fun w hp hn ho => ⟨_, by rw [hadd], .inr ⟨hadd, ν3', by simpa [List.flatMap_append] using hown3', (hp.mono SubH.mem)⟩⟩
                    · intro h67
                      refine ws_r rfl rfl rfl rfl (rd_move rfl) ?_
                      refine ws_rskip rfl rfl rfl rfl ?_
                      refine ws_rskip rfl rfl rfl rfl ?_
                      refine ws_rskip rfl rfl rfl rfl ?_
                      refine ws_rskip rfl rfl rfl rfl ?_
                      refine ws_xskip rfl rfl rfl rfl ?_
                      refine ws_late rfl ?_
                      refine ws_xskip rfl rfl rfl rfl ?_
                      refine ws_l rfl rfl rfl rfl (rd_pick_f rfl rfl) ?_
                      refine ws_l rfl rfl rfl rfl (rd_assign rfl) ?_
                      refine ws_nil ?_
                      refine qe_then ?_
                      refine wc_keep [(0, _), (5, _), (8, _), (9, _), (64, _)] rfl ?_
                      refine wc_false rfl ?_
                      refine wc_seq ?_
                      refine wc_plain [(0, .x true), (1, .x true), (2, .x true), (3, .x true), (4, .x true)] (by kernel_rfl) ?_
                      refine ws_l rfl rfl rfl rfl (rd_move rfl) ?_
                      refine ws_l rfl rfl rfl rfl (rd_fieldAddr rfl) ?_
                      refine ws_l rfl rfl rfl rfl (rd_load rfl) ?_
                      refine ws_callb (decide _) rfl rfl rfl rfl rfl (En.go) (fun w hp hn ho => has_ref v φ l hsrc hlen r.id w (hp.mono SubH.mem) hnd) ?_ ?_
                      · intro hhas
                        have hhas := of_decide_eq_true hhas
                        refine ws_l rfl rfl rfl rfl (rd_assign rfl) ?_
                        refine ws_nil ?_
                        refine qe_then ?_
                        refine wc_keep [(0, _), (5, _), (8, _), (9, _), (77, _)] rfl ?_
                        refine wc_true rfl ?_
                        refine wc_seq ?_
                        refine wc_plain [(0, .x true), (1, .x true), (2, .x true)] (by kernel_rfl) ?_
                        refine ws_l rfl rfl rfl rfl (rd_move rfl) ?_
                        refine ws_l rfl rfl rfl rfl (rd_assign rfl) ?_
                        refine ws_l rfl rfl rfl rfl (rd_assign rfl) ?_
                        refine ws_nil ?_
                        refine qe_then ?_
                        refine wc_ret ?_
                        refine qe_block_ret ?_
                        refine qe_then_ret ?_
                        refine qe_body _ (.inl rfl) (res2 rfl (RV.tmp rfl) (RV.tmp rfl)) ?_
                        have hE : addE l r kind to = 7 := (by simp only [addE, errR]; (try simp only [cmpP, ne_eq, Decidable.not_not] at *); grind)
                        exact ret_end fun w hp hn ho => ⟨_, by rw [hE], .inl ⟨by rw [hE]; omega, rfl⟩⟩
                      · intro hhas
                        have hhas := of_decide_eq_false hhas
                        refine ws_l rfl rfl rfl rfl (rd_assign rfl) ?_
                        refine ws_nil ?_
                        refine qe_then ?_
                        refine wc_keep [(0, _), (5, _), (8, _), (9, _), (77, _)] rfl ?_
                        refine wc_false rfl ?_
                        refine wc_skip ?_
                        refine qe_block ?_
                        refine qe_then ?_
                        refine wc_seq ?_
                        refine wc_drawnO mixedT _ (fun _ h => h) (.r 1 (.r 3 (.b 0 4 (.b 2 4 (.seq [(4, .x false), (5, .x true), (6, .x true), (7, .x true)]) (.seq [(2, .x false), (5, .x true), (6, .x true), (7, .x true)])) (.seq [(0, .x false), (2, .x false), (5, .x true), (6, .x true), (7, .x true)])))) (by kernel_rfl) ?_
                        refine od_r ?_
                        refine ws_r rfl rfl rfl rfl (rd_move rfl) ?_
                        refine od_go ?_
                        refine od_r ?_
                        refine ws_r rfl rfl rfl rfl (rd_load rfl) ?_
                        refine od_go ?_
                        refine od_b ?_ ?_
                        ·
                          refine ws_buildSlice rfl rfl rfl rfl ?_
                          intro b83 hb83
                          have hlit0 := OwnR.lit0 (E := 53) (k := 84) hb83
                          refine od_go ?_
                          refine od_b ?_ ?_
                          ·
                            refine ws_appendS rfl rfl rfl rfl rfl hlit0 (hsrc.mono (fun _ h => by simp [h])) (fun u hu => by obtain ⟨y, _, hy⟩ := List.mem_flatMap.1 hu; exact rkL_one y u hy) (by simp only [maxLen]; omega) (by omega) (fun _ _ _ h => by first | (cases h; done) | (simp only [List.mem_append, List.mem_cons] at h ⊢; grind) | skip) ?_
                            intro va νa howna
                            refine od_go ?_
                            refine od_seq ?_
                            refine ws_buildSlice rfl rfl rfl rfl ?_
                            intro b87 hb87
                            refine ws_late rfl ?_
                            have hadd : addE l r kind to = 0 := (by simp only [addE, errR]; (try simp only [cmpP, ne_eq, Decidable.not_not] at *); grind)
                            refine ws_append rfl rfl rfl rfl rfl howna (by simp [rkC_size]) (rkC_one r) (by simp only [maxLen]; omega) (by omega) (fun _ _ _ h => by first | (cases h; done) | (simp only [List.mem_append, List.mem_cons] at h ⊢; grind) | skip) ?_
                            intro v3' ν3' hown3'
                            refine ws_l rfl rfl rfl rfl (rd_assign rfl) ?_
                            refine ws_l rfl rfl rfl rfl (rd_assign rfl) ?_
                            refine ws_nil ?_
                            refine qe_then ?_
                            refine wc_keep [(8, _), (9, _)] rfl ?_
                            refine wc_ret ?_
                            refine qe_body _ (.inl rfl) (res2 rfl (RV.tmp rfl) (RV.tmp rfl)) ?_
                            exact ret_end fun w hp hn ho => ⟨_, by rw [hadd], .inr ⟨hadd, ν3', by simpa [List.flatMap_append] using hown3', (hp.mono SubH.mem)⟩⟩
                          ·
                            refine ws_buildSlice rfl rfl rfl rfl ?_
                            intro b87 hb87
                            refine od_go ?_
                            refine od_seq ?_
                            refine ws_appendS rfl rfl rfl rfl rfl hlit0 (hsrc.mono (fun _ h => by simp [h])) (fun u hu => by obtain ⟨y, _, hy⟩ := List.mem_flatMap.1 hu; exact rkL_one y u hy) (by simp only [maxLen]; omega) (by omega) (fun _ _ _ h => by first | (cases h; done) | (simp only [List.mem_append, List.mem_cons] at h ⊢; grind) | skip) ?_
                            intro va νa howna
                            refine ws_late rfl ?_
                            have hadd : addE l r kind to = 0 := (by simp only [addE, errR]; (try simp only [cmpP, ne_eq, Decidable.not_not] at *); grind)
                            refine ws_append rfl rfl rfl rfl rfl howna (by simp [rkC_size]) (rkC_one r) (by simp only [maxLen]; omega) (by omega) (fun _ _ _ h => by first | (cases h; done) | (simp only [List.mem_append, List.mem_cons] at h ⊢; grind) | skip) ?_
                            intro v3' ν3' hown3'
                            refine ws_l rfl rfl rfl rfl (rd_assign rfl) ?_
                            refine ws_l rfl rfl rfl rfl (rd_assign rfl) ?_
                            refine ws_nil ?_
                            refine qe_then ?_
                            refine wc_keep [(8, _), (9, _)] rfl ?_
                            refine wc_ret ?_
                            refine qe_body _ (.inl rfl) (res2 rfl (RV.tmp rfl) (RV.tmp rfl)) ?_
                            exact ret_end fun w hp hn ho => ⟨_, by rw [hadd], .inr ⟨hadd, ν3', by simpa [List.flatMap_append] using hown3', (hp.mono SubH.mem)⟩⟩
                        ·
                          refine ws_buildSlice rfl rfl rfl rfl ?_
                          intro b87 hb87
                          refine od_go ?_
                          refine od_seq ?_
                          refine ws_buildSlice rfl rfl rfl rfl ?_
                          intro b83 hb83
                          have hlit0 := OwnR.lit0 (E := 53) (k := 84) hb83
                          refine ws_appendS rfl rfl rfl rfl rfl hlit0 (hsrc.mono (fun _ h => by simp [h])) (fun u hu => by obtain ⟨y, _, hy⟩ := List.mem_flatMap.1 hu; exact rkL_one y u hy) (by simp only [maxLen]; omega) (by omega) (fun _ _ _ h => by first | (cases h; done) | (simp only [List.mem_append, List.mem_cons] at h ⊢; grind) | skip) ?_
                          intro va νa howna
                          refine ws_late rfl ?_
                          have hadd : addE l r kind to = 0 := (by simp only [addE, errR]; (try simp only [cmpP, ne_eq, Decidable.not_not] at *); grind)
                          refine ws_append rfl rfl rfl rfl rfl howna (by simp [rkC_size]) (rkC_one r) (by simp only [maxLen]; omega) (by omega) (fun _ _ _ h => by first | (cases h; done) | (simp only [List.mem_append, List.mem_cons] at h ⊢; grind) | skip) ?_
                          intro v3' ν3' hown3'
                          refine ws_l rfl rfl rfl rfl (rd_assign rfl) ?_
                          refine ws_l rfl rfl rfl rfl (rd_assign rfl) ?_
                          refine ws_nil ?_
                          refine qe_then ?_
                          refine wc_keep [(8, _), (9, _)] rfl ?_
                          refine wc_ret ?_
                          refine qe_body _ (.inl rfl) (res2 rfl (RV.tmp rfl) (RV.tmp rfl)) ?_
                          exact ret_end fun w hp hn ho => ⟨_, by rw [hadd], .inr ⟨hadd, ν3', by simpa [List.flatMap_append] using hown3', (hp.mono SubH.mem)⟩⟩
            · intro hf2
              have hf2 := of_decide_eq_false hf2
              refine ws_r rfl rfl rfl rfl (rd_not rfl) ?_
              refine ws_r rfl rfl rfl rfl (rd_pick_f rfl rfl) ?_
              refine ws_r rfl rfl rfl rfl (rd_move rfl) ?_
              refine ws_rskip rfl rfl rfl rfl ?_
              refine ws_rskip rfl rfl rfl rfl ?_
              refine ws_rskip rfl rfl rfl rfl ?_
              refine ws_rskip rfl rfl rfl rfl ?_
              refine ws_rskip rfl rfl rfl rfl ?_
              refine ws_r rfl rfl rfl rfl (rd_pick_t rfl rfl) ?_
              refine ws_r rfl rfl rfl rfl (rd_move rfl) ?_
              refine ws_rskip rfl rfl rfl rfl ?_
              refine ws_rskip rfl rfl rfl rfl ?_
              refine ws_rskip rfl rfl rfl rfl ?_
              refine ws_r rfl rfl rfl rfl (rd_pick_t rfl rfl) ?_
              refine ws_r rfl rfl rfl rfl (rd_move rfl) ?_
              refine ws_rskip rfl rfl rfl rfl ?_
              refine ws_rskip rfl rfl rfl rfl ?_
              refine ws_rskip rfl rfl rfl rfl ?_
              refine ws_rskip rfl rfl rfl rfl ?_
              refine ws_rskip rfl rfl rfl rfl ?_
              refine ws_rskip rfl rfl rfl rfl ?_
              refine ws_late rfl ?_
              refine ws_xskip rfl rfl rfl rfl ?_
              refine ws_l rfl rfl rfl rfl (rd_pick_t rfl rfl) ?_
              refine ws_l rfl rfl rfl rfl (rd_assign rfl) ?_
              refine ws_nil ?_
              refine qe_then ?_
              refine wc_keep [(0, _), (5, _), (8, _), (9, _), (31, _)] rfl ?_
              refine wc_true rfl ?_
              refine wc_seq ?_
              refine wc_plain [(0, .x true), (1, .x true), (2, .x true)] (by kernel_rfl) ?_
              refine ws_l rfl rfl rfl rfl (rd_move rfl) ?_
              refine ws_l rfl rfl rfl rfl (rd_assign rfl) ?_
              refine ws_l rfl rfl rfl rfl (rd_assign rfl) ?_
              refine ws_nil ?_
              refine qe_then ?_
              refine wc_ret ?_
              refine qe_block_ret ?_
              refine qe_then_ret ?_
              refine qe_body _ (.inl rfl) (res2 rfl (RV.tmp rfl) (RV.tmp rfl)) ?_
              have hE : addE l r kind to = 18 := (by simp only [addE, errR]; (try simp only [cmpP, ne_eq, Decidable.not_not] at *); grind)
              exact ret_end fun w hp hn ho => ⟨_, by rw [hE], .inl ⟨by rw [hE]; omega, rfl⟩⟩
          · intro hf1
            have hf1 := of_decide_eq_false hf1
            refine ws_r rfl rfl rfl rfl (rd_not rfl) ?_
            refine ws_r rfl rfl rfl rfl (rd_move rfl) ?_
            refine ws_rskip rfl rfl rfl rfl ?_
            refine ws_rskip rfl rfl rfl rfl ?_
            refine ws_xskip rfl rfl rfl rfl ?_
            refine ws_rskip rfl rfl rfl rfl ?_
            refine ws_r rfl rfl rfl rfl (rd_pick_t rfl rfl) ?_
            refine ws_r rfl rfl rfl rfl (rd_move rfl) ?_
            refine ws_rskip rfl rfl rfl rfl ?_
            refine ws_rskip rfl rfl rfl rfl ?_
            refine ws_rskip rfl rfl rfl rfl ?_
            refine ws_rskip rfl rfl rfl rfl ?_
            refine ws_rskip rfl rfl rfl rfl ?_
            refine ws_r rfl rfl rfl rfl (rd_pick_t rfl rfl) ?_
            refine ws_r rfl rfl rfl rfl (rd_move rfl) ?_
            refine ws_rskip rfl rfl rfl rfl ?_
            refine ws_rskip rfl rfl rfl rfl ?_
            refine ws_rskip rfl rfl rfl rfl ?_
            refine ws_r rfl rfl rfl rfl (rd_pick_t rfl rfl) ?_
            refine ws_r rfl rfl rfl rfl (rd_move rfl) ?_
            refine ws_rskip rfl rfl rfl rfl ?_
            refine ws_rskip rfl rfl rfl rfl ?_
            refine ws_rskip rfl rfl rfl rfl ?_
            refine ws_rskip rfl rfl rfl rfl ?_
            refine ws_rskip rfl rfl rfl rfl ?_
            refine ws_rskip rfl rfl rfl rfl ?_
            refine ws_late rfl ?_
            refine ws_xskip rfl rfl rfl rfl ?_
            refine ws_l rfl rfl rfl rfl (rd_pick_t rfl rfl) ?_
            refine ws_l rfl rfl rfl rfl (rd_assign rfl) ?_
            refine ws_nil ?_
            refine qe_then ?_
            refine wc_keep [(0, _), (5, _), (8, _), (9, _), (31, _)] rfl ?_
            refine wc_true rfl ?_
            refine wc_seq ?_
            refine wc_plain [(0, .x true), (1, .x true), (2, .x true)] (by kernel_rfl) ?_
            refine ws_l rfl rfl rfl rfl (rd_move rfl) ?_
            refine ws_l rfl rfl rfl rfl (rd_assign rfl) ?_
            refine ws_l rfl rfl rfl rfl (rd_assign rfl) ?_
            refine ws_nil ?_
            refine qe_then ?_
            refine wc_ret ?_
            refine qe_block_ret ?_
            refine qe_then_ret ?_
            refine qe_body _ (.inl rfl) (res2 rfl (RV.tmp rfl) (RV.tmp rfl)) ?_
            have hE : addE l r kind to = 18 := (by simp only [addE, errR]; (try simp only [cmpP, ne_eq, Decidable.not_not] at *); grind)
            exact ret_end fun w hp hn ho => ⟨_, by rw [hE], .inl ⟨by rw [hE]; omega, rfl⟩⟩

end Go.Proofs.YtheioljidangkaaGreat
