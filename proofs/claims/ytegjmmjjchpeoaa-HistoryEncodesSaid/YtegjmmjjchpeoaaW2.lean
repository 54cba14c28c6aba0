/- Walks: New, Judge, Add, SetGone of a history. No conditions. -/
import Derived.Test.YtegjmmjjchpeoaaW1
import Derived.Test.YtegjmmjjchpeoaaMx
namespace Go.Proofs.Ytegjmmjjchpeoaa
open Go Go.RowKit Go.Sx
set_option linter.unusedSimpArgs false
set_option linter.unusedVariables false

set_option maxRecDepth 100000 in
set_option maxHeartbeats 1000000 in
theorem new_ret (w : World) : Ret Try.prog 38 [] w [] (fun v w' => ∃ p m, v = ptr p ∧ w.heap.size ≤ p ∧ w.heap.size ≤ m ∧ p ≠ m ∧ HpOK (hist p m 0 #[] 0) w') := by
  refine enter (n := 4) (args := []) [] [] Try.func38 rfl rfl rfl (HpOK.nil w) (by simp) ?_
  refine wc_seq ?_
  refine wc_plain [(0, .x true)] (by kernel_rfl) ?_
  refine ws_l rfl rfl rfl rfl (rd_assign rfl) ?_
  refine ws_nil ?_
  refine qe_then ?_
  refine wc_seq ?_
  refine wc_plain [(0, .x true), (1, .x true), (2, .x true), (3, .x true)] (by kernel_rfl) ?_
  refine ws_makeMap rfl rfl rfl ?_
  intro b1 hb1
  refine ws_l rfl rfl rfl rfl (rd_build rfl) ?_
  refine ws_box rfl rfl rfl rfl ?_
  intro b3 hb3
  refine ws_l rfl rfl rfl rfl (rd_assign rfl) ?_
  refine ws_nil ?_
  refine qe_then ?_
  refine wc_ret ?_
  refine qe_body _ (.inl rfl) (res1 rfl (RV.tmp rfl)) ?_
  exact ret_end fun w hp hn ho => ⟨b3, b1, rfl, hb3, hb1, ne_of_facts hp, hp⟩
set_option maxRecDepth 100000 in
set_option maxHeartbeats 1000000 in
theorem judge_ret (p m : Nat) (cut : Int) (es : Array MapEntry) (clock : Nat) (L : HMap) (hL : MapIs idK entK es clock L) (hne : p ≠ m) (hcut : 0 ≤ cut ∧ cut ≤ 105190559) (id : Id) (date now : Int) (perm : Bool) (w : World) (hη : HpOK (hist p m cut es clock) w) : Ret Try.prog 17 [ptr p, idK id, I date, I now, .bool perm] w [] (fun v _ => v = I (judgeF (mlook L id).isSome cut date now perm)) := by
  refine enter (n := 53) (args := [ptr p, idK id, I date, I now, .bool perm]) [] (hist p m cut es clock) Try.func17 rfl rfl rfl hη (by simp [hne]) ?_
  refine wc_seq ?_
  refine wc_plain [(0, .x true), (1, .x true)] (by kernel_rfl) ?_
  refine ws_box rfl rfl rfl rfl ?_
  intro b6 hb6
  refine ws_l rfl rfl rfl rfl (rd_assign rfl) ?_
  refine ws_nil ?_
  refine qe_then ?_
  refine wc_seq ?_
  refine wc_seq ?_
  refine wc_plain [(0, .x true), (1, .x true)] (by kernel_rfl) ?_
  refine ws_l rfl rfl rfl rfl (rd_move rfl) ?_
  refine ws_l rfl rfl rfl rfl (rd_ptr_nil rfl rfl Try.underlying35 rfl) ?_
  refine ws_nil ?_
  refine qe_then ?_
  refine wc_false rfl ?_
  refine wc_skip ?_
  refine qe_then ?_
  refine wc_seq ?_
  refine wc_drawn mixedT _ (fun _ h => h) [(0, .r), (1, .r), (2, .r), (3, .r), (4, .r), (5, .r), (6, .r), (7, .r), (8, .r), (9, .x false), (10, .x false), (11, .x true)] (by kernel_rfl) ?_
  refine ws_r rfl rfl rfl rfl (rd_move rfl) ?_
  refine ws_r rfl rfl rfl rfl (rd_nil rfl) ?_
  refine ws_r rfl rfl rfl rfl (rd_fieldAddr rfl) ?_
  refine ws_r rfl rfl rfl rfl (rd_load rfl) ?_
  refine ws_r rfl rfl rfl rfl (rd_load rfl) ?_
  cases hlk : mlook L id with
  | none =>
    refine ws_r rfl rfl rfl rfl (rd_look2_none (ek := idK) (en := entK) Try.underlying84 hL zero29 hlk rfl rfl) ?_
    refine ws_r rfl rfl rfl rfl (rd_move rfl) ?_
    refine ws_r rfl rfl rfl rfl (rd_extract rfl) ?_
    refine ws_r rfl rfl rfl rfl (rd_extract rfl) ?_
    refine ws_alloc rfl rfl rfl ?_
    intro b11 hb11
    refine ws_store rfl rfl rfl rfl (by first | exact .inl (by assumption) | exact .inr (by simp)) (fun _ h _ => by first | (cases h; done) | exact List.mem_cons_of_mem _ h | exact List.mem_cons_of_mem _ (List.mem_cons_of_mem _ h) | (simp at h ⊢; simp [h])) ?_
    refine ws_late rfl ?_
    refine ws_l rfl rfl rfl rfl (rd_assign rfl) ?_
    refine ws_nil ?_
    refine qe_then ?_
    refine wc_keep [(0, _), (2, _), (3, _), (4, _), (10, _), (12, _)] rfl ?_
    refine wc_seq ?_
    refine wc_block ?_
    refine wc_seq ?_
    refine wc_plain [(0, .x true), (1, .x true), (2, .x true), (3, .x true), (4, .x true), (5, .x true), (6, .x true), (7, .x true), (8, .x true)] (by kernel_rfl) ?_
    refine ws_l rfl rfl rfl rfl (rd_move rfl) ?_
    refine ws_callb (minuteB _) rfl rfl rfl rfl rfl (En.go) (fun w hp hn ho => minute_ret _ w) ?_ ?_
    · intro h26
      have hb26 := minuteB_bounds h26
      refine ws_l rfl rfl rfl rfl (rd_not rfl) ?_
      refine ws_l rfl rfl rfl rfl (rd_move rfl) ?_
      refine ws_l rfl rfl rfl rfl (rd_move rfl) ?_
      refine ws_callb (minuteB _) rfl rfl rfl rfl rfl (En.go) (fun w hp hn ho => minute_ret _ w) ?_ ?_
      · intro h30
        have hb30 := minuteB_bounds h30
        refine ws_l rfl rfl rfl rfl (rd_not rfl) ?_
        refine ws_l rfl rfl rfl rfl (rd_pick_f rfl rfl) ?_
        refine ws_l rfl rfl rfl rfl (rd_assign rfl) ?_
        refine ws_nil ?_
        refine qe_then ?_
        refine wc_keep [(0, _), (2, _), (3, _), (4, _), (10, _), (12, _), (24, _)] rfl ?_
        refine wc_false rfl ?_
        refine wc_seq ?_
        refine wc_plain [(0, .x true), (1, .x true)] (by kernel_rfl) ?_
        refine ws_l rfl rfl rfl rfl (rd_move rfl) ?_
        refine ws_l rfl rfl rfl rfl (rd_assign rfl) ?_
        refine ws_nil ?_
        refine qe_then ?_
        refine wc_false rfl ?_
        refine wc_seq ?_
        refine wc_plain [(0, .x true), (1, .x true), (2, .x true), (3, .x true), (4, .x true)] (by kernel_rfl) ?_
        refine ws_l rfl rfl rfl rfl (rd_move rfl) ?_
        refine ws_l rfl rfl rfl rfl (rd_move rfl) ?_
        refine ws_l rfl rfl rfl rfl (rd_arith _ rfl rfl rfl (wrap_i64 _ (by omega) (by omega))) ?_
        refine ws_lcmp rfl rfl rfl (rfl) (rfl) (rfl) ?_ ?_
        · intro h39
          refine ws_l rfl rfl rfl rfl (rd_assign rfl) ?_
          refine ws_nil ?_
          refine qe_then ?_
          refine wc_keep [(0, _), (2, _), (3, _), (4, _), (10, _), (35, _)] rfl ?_
          refine wc_true rfl ?_
          refine wc_seq ?_
          refine wc_plain [(0, .x true)] (by kernel_rfl) ?_
          refine ws_l rfl rfl rfl rfl (rd_assign rfl) ?_
          refine ws_nil ?_
          refine qe_then ?_
          refine wc_keep [(10, _)] rfl ?_
          refine wc_ret ?_
          refine qe_block_ret ?_
          refine qe_then_ret ?_
          refine qe_body _ (.inl rfl) (res1 rfl (RV.tmp rfl)) ?_
          exact ret_end fun w hp hn ho => by (try simp only [cmpP, ne_eq, Decidable.not_not] at *); simp [judgeF, oldB, *]; try (simp only [oldB, decide_eq_true_eq, decide_eq_false_iff_not] at *; intros; split at h48 <;> omega)
        · intro h39
          refine ws_l rfl rfl rfl rfl (rd_assign rfl) ?_
          refine ws_nil ?_
          refine qe_then ?_
          refine wc_keep [(0, _), (2, _), (3, _), (4, _), (10, _), (35, _)] rfl ?_
          refine wc_false rfl ?_
          refine wc_seq ?_
          refine wc_plain [(0, .x true), (1, .x true), (2, .x true), (3, .x true), (4, .x true), (5, .x true), (6, .x true), (7, .x true), (8, .x true), (9, .x true), (10, .x true), (11, .x true), (12, .x true)] (by kernel_rfl) ?_
          refine ws_l rfl rfl rfl rfl (rd_move rfl) ?_
          refine ws_l rfl rfl rfl rfl (rd_move rfl) ?_
          refine ws_l rfl rfl rfl rfl (rd_move rfl) ?_
          refine ws_l rfl rfl rfl rfl (rd_nil rfl) ?_
          refine ws_l rfl rfl rfl rfl (rd_fieldAddr rfl) ?_
          refine ws_l rfl rfl rfl rfl (rd_load rfl) ?_
          refine ws_l rfl rfl rfl rfl (rd_max rfl rfl) ?_
          refine ws_callb (oldB _ _) rfl rfl rfl rfl rfl (En.go) (fun w hp hn ho => old_ret _ _ w (by omega) (by omega)) ?_ ?_
          · intro h48
            refine ws_l rfl rfl rfl rfl (rd_move rfl) ?_
            cases perm
            ·
              refine ws_l rfl rfl rfl rfl (rd_move rfl) ?_
              refine ws_l rfl rfl rfl rfl (rd_not rfl) ?_
              refine ws_l rfl rfl rfl rfl (rd_pick_t rfl rfl) ?_
              refine ws_l rfl rfl rfl rfl (rd_assign rfl) ?_
              refine ws_nil ?_
              refine qe_then ?_
              refine wc_keep [(10, _), (40, _)] rfl ?_
              refine wc_true rfl ?_
              refine wc_seq ?_
              refine wc_plain [(0, .x true)] (by kernel_rfl) ?_
              refine ws_l rfl rfl rfl rfl (rd_assign rfl) ?_
              refine ws_nil ?_
              refine qe_then ?_
              refine wc_ret ?_
              refine qe_block_ret ?_
              refine qe_then_ret ?_
              refine qe_body _ (.inl rfl) (res1 rfl (RV.tmp rfl)) ?_
              exact ret_end fun w hp hn ho => by (try simp only [cmpP, ne_eq, Decidable.not_not] at *); simp [judgeF, oldB, *]; try (simp only [oldB, decide_eq_true_eq, decide_eq_false_iff_not] at *; intros; split at h48 <;> omega)
            ·
              refine ws_l rfl rfl rfl rfl (rd_move rfl) ?_
              refine ws_l rfl rfl rfl rfl (rd_not rfl) ?_
              refine ws_l rfl rfl rfl rfl (rd_pick_t rfl rfl) ?_
              refine ws_l rfl rfl rfl rfl (rd_assign rfl) ?_
              refine ws_nil ?_
              refine qe_then ?_
              refine wc_keep [(10, _), (40, _)] rfl ?_
              refine wc_false rfl ?_
              refine wc_skip ?_
              refine qe_block ?_
              refine qe_then ?_
              refine wc_seq ?_
              refine wc_plain [(0, .x true)] (by kernel_rfl) ?_
              refine ws_l rfl rfl rfl rfl (rd_assign rfl) ?_
              refine ws_nil ?_
              refine qe_then ?_
              refine wc_ret ?_
              refine qe_body _ (.inl rfl) (res1 rfl (RV.tmp rfl)) ?_
              exact ret_end fun w hp hn ho => by (try simp only [cmpP, ne_eq, Decidable.not_not] at *); simp [judgeF, oldB, *]; try (simp only [oldB, decide_eq_true_eq, decide_eq_false_iff_not] at *; intros; split at h48 <;> omega)
          · intro h48
            refine ws_l rfl rfl rfl rfl (rd_move rfl) ?_
            refine ws_xskip rfl rfl rfl rfl ?_
            refine ws_xskip rfl rfl rfl rfl ?_
            refine ws_l rfl rfl rfl rfl (rd_pick_f rfl rfl) ?_
            refine ws_l rfl rfl rfl rfl (rd_assign rfl) ?_
            refine ws_nil ?_
            refine qe_then ?_
            refine wc_keep [(10, _), (40, _)] rfl ?_
            refine wc_false rfl ?_
            refine wc_skip ?_
            refine qe_block ?_
            refine qe_then ?_
            refine wc_seq ?_
            refine wc_plain [(0, .x true)] (by kernel_rfl) ?_
            refine ws_l rfl rfl rfl rfl (rd_assign rfl) ?_
            refine ws_nil ?_
            refine qe_then ?_
            refine wc_ret ?_
            refine qe_body _ (.inl rfl) (res1 rfl (RV.tmp rfl)) ?_
            exact ret_end fun w hp hn ho => by (try simp only [cmpP, ne_eq, Decidable.not_not] at *); simp [judgeF, oldB, *]; try (simp only [oldB, decide_eq_true_eq, decide_eq_false_iff_not] at *; intros; split at h48 <;> omega)
      · intro h30
        refine ws_l rfl rfl rfl rfl (rd_not rfl) ?_
        refine ws_l rfl rfl rfl rfl (rd_pick_f rfl rfl) ?_
        refine ws_l rfl rfl rfl rfl (rd_assign rfl) ?_
        refine ws_nil ?_
        refine qe_then ?_
        refine wc_keep [(0, _), (2, _), (3, _), (4, _), (10, _), (12, _), (24, _)] rfl ?_
        refine wc_true rfl ?_
        refine wc_seq ?_
        refine wc_plain [(0, .x true)] (by kernel_rfl) ?_
        refine ws_l rfl rfl rfl rfl (rd_assign rfl) ?_
        refine ws_nil ?_
        refine qe_then ?_
        refine wc_keep [(10, _)] rfl ?_
        refine wc_ret ?_
        refine qe_block_ret ?_
        refine qe_then_ret ?_
        refine qe_body _ (.inl rfl) (res1 rfl (RV.tmp rfl)) ?_
        exact ret_end fun w hp hn ho => by (try simp only [cmpP, ne_eq, Decidable.not_not] at *); simp [judgeF, oldB, *]; try (simp only [oldB, decide_eq_true_eq, decide_eq_false_iff_not] at *; intros; split at h48 <;> omega)
    · intro h26
      refine ws_l rfl rfl rfl rfl (rd_not rfl) ?_
      refine ws_l rfl rfl rfl rfl (rd_move rfl) ?_
      refine ws_xskip rfl rfl rfl rfl ?_
      refine ws_xskip rfl rfl rfl rfl ?_
      refine ws_xskip rfl rfl rfl rfl ?_
      refine ws_l rfl rfl rfl rfl (rd_pick_t rfl rfl) ?_
      refine ws_l rfl rfl rfl rfl (rd_assign rfl) ?_
      refine ws_nil ?_
      refine qe_then ?_
      refine wc_keep [(0, _), (2, _), (3, _), (4, _), (10, _), (12, _), (24, _)] rfl ?_
      refine wc_true rfl ?_
      refine wc_seq ?_
      refine wc_plain [(0, .x true)] (by kernel_rfl) ?_
      refine ws_l rfl rfl rfl rfl (rd_assign rfl) ?_
      refine ws_nil ?_
      refine qe_then ?_
      refine wc_keep [(10, _)] rfl ?_
      refine wc_ret ?_
      refine qe_block_ret ?_
      refine qe_then_ret ?_
      refine qe_body _ (.inl rfl) (res1 rfl (RV.tmp rfl)) ?_
      exact ret_end fun w hp hn ho => by (try simp only [cmpP, ne_eq, Decidable.not_not] at *); simp [judgeF, oldB, *]; try (simp only [oldB, decide_eq_true_eq, decide_eq_false_iff_not] at *; intros; split at h48 <;> omega)
  | some e0 =>
    refine ws_r rfl rfl rfl rfl (rd_look2_some (ek := idK) (en := entK) Try.underlying84 hL hlk rfl rfl) ?_
    refine ws_r rfl rfl rfl rfl (rd_move rfl) ?_
    refine ws_r rfl rfl rfl rfl (rd_extract rfl) ?_
    refine ws_r rfl rfl rfl rfl (rd_extract rfl) ?_
    refine ws_alloc rfl rfl rfl ?_
    intro b11 hb11
    refine ws_store rfl rfl rfl rfl (by first | exact .inl (by assumption) | exact .inr (by simp)) (fun _ h _ => by first | (cases h; done) | exact List.mem_cons_of_mem _ h | exact List.mem_cons_of_mem _ (List.mem_cons_of_mem _ h) | (simp at h ⊢; simp [h])) ?_
    refine ws_late rfl ?_
    refine ws_l rfl rfl rfl rfl (rd_assign rfl) ?_
    refine ws_nil ?_
    refine qe_then ?_
    refine wc_keep [(0, _), (2, _), (3, _), (4, _), (10, _), (12, _)] rfl ?_
    refine wc_seq ?_
    refine wc_block ?_
    refine wc_seq ?_
    refine wc_plain [(0, .x true), (1, .x true), (2, .x true), (3, .x true), (4, .x true), (5, .x true), (6, .x true), (7, .x true), (8, .x true)] (by kernel_rfl) ?_
    refine ws_l rfl rfl rfl rfl (rd_move rfl) ?_
    refine ws_callb (minuteB _) rfl rfl rfl rfl rfl (En.go) (fun w hp hn ho => minute_ret _ w) ?_ ?_
    · intro h26
      have hb26 := minuteB_bounds h26
      refine ws_l rfl rfl rfl rfl (rd_not rfl) ?_
      refine ws_l rfl rfl rfl rfl (rd_move rfl) ?_
      refine ws_l rfl rfl rfl rfl (rd_move rfl) ?_
      refine ws_callb (minuteB _) rfl rfl rfl rfl rfl (En.go) (fun w hp hn ho => minute_ret _ w) ?_ ?_
      · intro h30
        have hb30 := minuteB_bounds h30
        refine ws_l rfl rfl rfl rfl (rd_not rfl) ?_
        refine ws_l rfl rfl rfl rfl (rd_pick_f rfl rfl) ?_
        refine ws_l rfl rfl rfl rfl (rd_assign rfl) ?_
        refine ws_nil ?_
        refine qe_then ?_
        refine wc_keep [(0, _), (2, _), (3, _), (4, _), (10, _), (12, _), (24, _)] rfl ?_
        refine wc_false rfl ?_
        refine wc_seq ?_
        refine wc_plain [(0, .x true), (1, .x true)] (by kernel_rfl) ?_
        refine ws_l rfl rfl rfl rfl (rd_move rfl) ?_
        refine ws_l rfl rfl rfl rfl (rd_assign rfl) ?_
        refine ws_nil ?_
        refine qe_then ?_
        refine wc_true rfl ?_
        refine wc_seq ?_
        refine wc_plain [(0, .x true)] (by kernel_rfl) ?_
        refine ws_l rfl rfl rfl rfl (rd_assign rfl) ?_
        refine ws_nil ?_
        refine qe_then ?_
        refine wc_keep [(10, _)] rfl ?_
        refine wc_ret ?_
        refine qe_block_ret ?_
        refine qe_then_ret ?_
        refine qe_body _ (.inl rfl) (res1 rfl (RV.tmp rfl)) ?_
        exact ret_end fun w hp hn ho => by (try simp only [cmpP, ne_eq, Decidable.not_not] at *); simp [judgeF, oldB, *]; try (simp only [oldB, decide_eq_true_eq, decide_eq_false_iff_not] at *; intros; split at h48 <;> omega)
      · intro h30
        refine ws_l rfl rfl rfl rfl (rd_not rfl) ?_
        refine ws_l rfl rfl rfl rfl (rd_pick_f rfl rfl) ?_
        refine ws_l rfl rfl rfl rfl (rd_assign rfl) ?_
        refine ws_nil ?_
        refine qe_then ?_
        refine wc_keep [(0, _), (2, _), (3, _), (4, _), (10, _), (12, _), (24, _)] rfl ?_
        refine wc_true rfl ?_
        refine wc_seq ?_
        refine wc_plain [(0, .x true)] (by kernel_rfl) ?_
        refine ws_l rfl rfl rfl rfl (rd_assign rfl) ?_
        refine ws_nil ?_
        refine qe_then ?_
        refine wc_keep [(10, _)] rfl ?_
        refine wc_ret ?_
        refine qe_block_ret ?_
        refine qe_then_ret ?_
        refine qe_body _ (.inl rfl) (res1 rfl (RV.tmp rfl)) ?_
        exact ret_end fun w hp hn ho => by (try simp only [cmpP, ne_eq, Decidable.not_not] at *); simp [judgeF, oldB, *]; try (simp only [oldB, decide_eq_true_eq, decide_eq_false_iff_not] at *; intros; split at h48 <;> omega)
    · intro h26
      refine ws_l rfl rfl rfl rfl (rd_not rfl) ?_
      refine ws_l rfl rfl rfl rfl (rd_move rfl) ?_
      refine ws_xskip rfl rfl rfl rfl ?_
      refine ws_xskip rfl rfl rfl rfl ?_
      refine ws_xskip rfl rfl rfl rfl ?_
      refine ws_l rfl rfl rfl rfl (rd_pick_t rfl rfl) ?_
      refine ws_l rfl rfl rfl rfl (rd_assign rfl) ?_
      refine ws_nil ?_
      refine qe_then ?_
      refine wc_keep [(0, _), (2, _), (3, _), (4, _), (10, _), (12, _), (24, _)] rfl ?_
      refine wc_true rfl ?_
      refine wc_seq ?_
      refine wc_plain [(0, .x true)] (by kernel_rfl) ?_
      refine ws_l rfl rfl rfl rfl (rd_assign rfl) ?_
      refine ws_nil ?_
      refine qe_then ?_
      refine wc_keep [(10, _)] rfl ?_
      refine wc_ret ?_
      refine qe_block_ret ?_
      refine qe_then_ret ?_
      refine qe_body _ (.inl rfl) (res1 rfl (RV.tmp rfl)) ?_
      exact ret_end fun w hp hn ho => by (try simp only [cmpP, ne_eq, Decidable.not_not] at *); simp [judgeF, oldB, *]; try (simp only [oldB, decide_eq_true_eq, decide_eq_false_iff_not] at *; intros; split at h48 <;> omega)
set_option maxRecDepth 100000 in
set_option maxHeartbeats 1000000 in
theorem add_ret (p m : Nat) (cut : Int) (es : Array MapEntry) (clock : Nat) (L : HMap) (hL : MapIs idK entK es clock L) (hne : p ≠ m) (hlen : L.length < 1048576) (x : Ent) (w : World) (hη : HpOK (hist p m cut es clock) w) : Ret Try.prog 19 [ptr p, entK x] w [m] (fun v w' => v = I (addErr (mlook L x.id).isSome x) ∧ ∃ es' clock', w'.heap[m]? = some (.map es' clock') ∧ MapIs idK entK es' clock' (addL L x)) := by
  refine enter (n := 39) (args := [ptr p, entK x]) [m] (hist p m cut es clock) Try.func19 rfl rfl rfl hη (by simp [hne]) ?_
  refine wc_seq ?_
  refine wc_plain [(0, .x true), (1, .x true)] (by kernel_rfl) ?_
  refine ws_box rfl rfl rfl rfl ?_
  intro b3 hb3
  refine ws_l rfl rfl rfl rfl (rd_assign rfl) ?_
  refine ws_nil ?_
  refine qe_then ?_
  refine wc_seq ?_
  refine wc_seq ?_
  refine wc_plain [(0, .x true), (1, .x true)] (by kernel_rfl) ?_
  refine ws_l rfl rfl rfl rfl (rd_move rfl) ?_
  refine ws_l rfl rfl rfl rfl (rd_ptr_nil rfl rfl Try.underlying35 rfl) ?_
  refine ws_nil ?_
  refine qe_then ?_
  refine wc_false rfl ?_
  refine wc_skip ?_
  refine qe_then ?_
  refine wc_seq ?_
  refine wc_seq ?_
  refine wc_plain [(0, .x true), (1, .x true), (2, .x true)] (by kernel_rfl) ?_
  refine ws_l rfl rfl rfl rfl (rd_load rfl) ?_
  refine ws_callp rfl rfl rfl rfl rfl (En.go) (fun w hp hn ho => check_ret _ w) ?_
  refine ws_l rfl rfl rfl rfl (rd_assign rfl) ?_
  refine ws_nil ?_
  refine qe_then ?_
  refine wc_keep [(0, _), (3, _), (4, _), (5, _)] rfl ?_
  refine wc_seq ?_
  refine wc_plain [(0, .x true), (1, .x true)] (by kernel_rfl) ?_
  refine ws_l rfl rfl rfl rfl (rd_move rfl) ?_
  refine ws_lcmp rfl rfl rfl (rfl) (rfl) (rfl) ?_ ?_
  · intro h13
    refine ws_nil ?_
    refine qe_then ?_
    refine wc_true rfl ?_
    refine wc_seq ?_
    refine wc_plain [(0, .x true), (1, .x true)] (by kernel_rfl) ?_
    refine ws_l rfl rfl rfl rfl (rd_move rfl) ?_
    refine ws_l rfl rfl rfl rfl (rd_assign rfl) ?_
    refine ws_nil ?_
    refine qe_then ?_
    refine wc_ret ?_
    refine qe_then_ret ?_
    refine qe_body _ (.inl rfl) (res1 rfl (RV.tmp rfl)) ?_
    exact ret_end fun w hp hn ho => ⟨by (try simp only [cmpP, ne_eq, Decidable.not_not] at *); simp [addErr, *], es, clock, hp _ _ (by simp), by rw [show addL L x = L by (try simp only [cmpP, ne_eq, Decidable.not_not] at *); simp [addL, addErr, *]]; exact hL⟩
  · intro h13
    refine ws_nil ?_
    refine qe_then ?_
    refine wc_false rfl ?_
    refine wc_skip ?_
    refine qe_then ?_
    refine wc_seq ?_
    refine wc_seq ?_
    refine wc_drawn mixedT _ (fun _ h => h) [(0, .r), (1, .r), (2, .r), (3, .r), (4, .r), (5, .r), (6, .r), (7, .r), (8, .r), (9, .r), (10, .x false), (11, .x false), (12, .x true)] (by kernel_rfl) ?_
    refine ws_r rfl rfl rfl rfl (rd_move rfl) ?_
    refine ws_r rfl rfl rfl rfl (rd_nil rfl) ?_
    refine ws_r rfl rfl rfl rfl (rd_fieldAddr rfl) ?_
    refine ws_r rfl rfl rfl rfl (rd_load rfl) ?_
    refine ws_r rfl rfl rfl rfl (rd_fieldAddr rfl) ?_
    refine ws_r rfl rfl rfl rfl (rd_load rfl) ?_
    cases hlk : mlook L x.id with
    | none =>
      refine ws_r rfl rfl rfl rfl (rd_look2_none (ek := idK) (en := entK) Try.underlying84 hL zero29 hlk rfl rfl) ?_
      refine ws_r rfl rfl rfl rfl (rd_move rfl) ?_
      refine ws_r rfl rfl rfl rfl (rd_extract rfl) ?_
      refine ws_r rfl rfl rfl rfl (rd_extract rfl) ?_
      refine ws_alloc rfl rfl rfl ?_
      intro b6 hb6
      refine ws_store rfl rfl rfl rfl (by first | exact .inl (by assumption) | exact .inr (by simp)) (fun _ h _ => by first | (cases h; done) | exact List.mem_cons_of_mem _ h | exact List.mem_cons_of_mem _ (List.mem_cons_of_mem _ h) | (simp at h ⊢; simp [h])) ?_
      refine ws_late rfl ?_
      refine ws_l rfl rfl rfl rfl (rd_assign rfl) ?_
      refine ws_nil ?_
      refine qe_then ?_
      refine wc_keep [(0, _), (3, _), (4, _), (7, _)] rfl ?_
      refine wc_seq ?_
      refine wc_plain [(0, .x true)] (by kernel_rfl) ?_
      refine ws_l rfl rfl rfl rfl (rd_move rfl) ?_
      refine ws_nil ?_
      refine qe_then ?_
      refine wc_false rfl ?_
      refine wc_skip ?_
      refine qe_then ?_
      refine wc_seq ?_
      refine wc_seq ?_
      refine wc_plain [(0, .x true), (1, .x true), (2, .x true), (3, .x true), (4, .x true), (5, .x true)] (by kernel_rfl) ?_
      refine ws_l rfl rfl rfl rfl (rd_move rfl) ?_
      refine ws_l rfl rfl rfl rfl (rd_nil rfl) ?_
      refine ws_l rfl rfl rfl rfl (rd_fieldAddr rfl) ?_
      refine ws_l rfl rfl rfl rfl (rd_load rfl) ?_
      refine ws_l rfl rfl rfl rfl (rd_lenmap (ek := idK) (en := entK) hL Try.underlying84 rfl) ?_
      refine ws_l rfl rfl rfl rfl (rd_cmp_f rfl rfl rfl (by simp only [cmpP]; omega)) ?_
      refine ws_nil ?_
      refine qe_then ?_
      refine wc_keep [(0, _), (3, _), (4, _), (31, _)] rfl ?_
      refine wc_false rfl ?_
      refine wc_skip ?_
      refine qe_then ?_
      refine wc_seq ?_
      refine wc_drawn mixedT _ (fun _ h => h) [(0, .r), (1, .r), (2, .r), (3, .r), (4, .r), (5, .r), (6, .r), (7, .x true)] (by kernel_rfl) ?_
      refine ws_r rfl rfl rfl rfl (rd_move rfl) ?_
      refine ws_r rfl rfl rfl rfl (rd_nil rfl) ?_
      refine ws_r rfl rfl rfl rfl (rd_fieldAddr rfl) ?_
      refine ws_r rfl rfl rfl rfl (rd_load rfl) ?_
      refine ws_r rfl rfl rfl rfl (rd_fieldAddr rfl) ?_
      refine ws_r rfl rfl rfl rfl (rd_load rfl) ?_
      refine ws_r rfl rfl rfl rfl (rd_load rfl) ?_
      refine ws_late rfl ?_
      refine ws_update (ek := idK) (en := entK) Try.underlying84 hL rfl rfl rfl rfl rfl (.inr (by simp)) ?_
      intro es' clock' hL'
      refine ws_nil ?_
      refine qe_then ?_
      refine wc_keep [(4, _)] rfl ?_
      refine wc_seq ?_
      refine wc_plain [(0, .x true)] (by kernel_rfl) ?_
      refine ws_l rfl rfl rfl rfl (rd_assign rfl) ?_
      refine ws_nil ?_
      refine qe_then ?_
      refine wc_ret ?_
      refine qe_body _ (.inl rfl) (res1 rfl (RV.tmp rfl)) ?_
      exact ret_end fun w hp hn ho => ⟨by (try simp only [cmpP, ne_eq, Decidable.not_not] at *); simp [addErr, *], es', clock', hp _ _ (by simp), by rw [show addL L x = upd L x.id x by (try simp only [cmpP, ne_eq, Decidable.not_not] at *); simp [addL, addErr, *]]; exact hL'⟩
    | some e0 =>
      refine ws_r rfl rfl rfl rfl (rd_look2_some (ek := idK) (en := entK) Try.underlying84 hL hlk rfl rfl) ?_
      refine ws_r rfl rfl rfl rfl (rd_move rfl) ?_
      refine ws_r rfl rfl rfl rfl (rd_extract rfl) ?_
      refine ws_r rfl rfl rfl rfl (rd_extract rfl) ?_
      refine ws_alloc rfl rfl rfl ?_
      intro b6 hb6
      refine ws_store rfl rfl rfl rfl (by first | exact .inl (by assumption) | exact .inr (by simp)) (fun _ h _ => by first | (cases h; done) | exact List.mem_cons_of_mem _ h | exact List.mem_cons_of_mem _ (List.mem_cons_of_mem _ h) | (simp at h ⊢; simp [h])) ?_
      refine ws_late rfl ?_
      refine ws_l rfl rfl rfl rfl (rd_assign rfl) ?_
      refine ws_nil ?_
      refine qe_then ?_
      refine wc_keep [(0, _), (3, _), (4, _), (7, _)] rfl ?_
      refine wc_seq ?_
      refine wc_plain [(0, .x true)] (by kernel_rfl) ?_
      refine ws_l rfl rfl rfl rfl (rd_move rfl) ?_
      refine ws_nil ?_
      refine qe_then ?_
      refine wc_true rfl ?_
      refine wc_seq ?_
      refine wc_plain [(0, .x true)] (by kernel_rfl) ?_
      refine ws_l rfl rfl rfl rfl (rd_assign rfl) ?_
      refine ws_nil ?_
      refine qe_then ?_
      refine wc_ret ?_
      refine qe_then_ret ?_
      refine qe_body _ (.inl rfl) (res1 rfl (RV.tmp rfl)) ?_
      exact ret_end fun w hp hn ho => ⟨by (try simp only [cmpP, ne_eq, Decidable.not_not] at *); simp [addErr, *], es, clock, hp _ _ (by simp), by rw [show addL L x = L by (try simp only [cmpP, ne_eq, Decidable.not_not] at *); simp [addL, addErr, *]]; exact hL⟩
set_option maxRecDepth 100000 in
set_option maxHeartbeats 1000000 in
theorem setgone_ret (p m : Nat) (cut : Int) (es : Array MapEntry) (clock : Nat) (L : HMap) (hL : MapIs idK entK es clock L) (hne : p ≠ m) (id : Id) (w : World) (hη : HpOK (hist p m cut es clock) w) : Ret Try.prog 20 [ptr p, idK id] w [m] (fun v w' => v = I (goneErr (mlook L id)) ∧ ∃ es' clock', w'.heap[m]? = some (.map es' clock') ∧ MapIs idK entK es' clock' (goneL L id)) := by
  refine enter (n := 32) (args := [ptr p, idK id]) [m] (hist p m cut es clock) Try.func20 rfl rfl rfl hη (by simp [hne]) ?_
  refine wc_seq ?_
  refine wc_plain [(0, .x true), (1, .x true)] (by kernel_rfl) ?_
  refine ws_box rfl rfl rfl rfl ?_
  intro b3 hb3
  refine ws_l rfl rfl rfl rfl (rd_assign rfl) ?_
  refine ws_nil ?_
  refine qe_then ?_
  refine wc_seq ?_
  refine wc_seq ?_
  refine wc_plain [(0, .x true), (1, .x true)] (by kernel_rfl) ?_
  refine ws_l rfl rfl rfl rfl (rd_move rfl) ?_
  refine ws_l rfl rfl rfl rfl (rd_ptr_nil rfl rfl Try.underlying35 rfl) ?_
  refine ws_nil ?_
  refine qe_then ?_
  refine wc_false rfl ?_
  refine wc_skip ?_
  refine qe_then ?_
  refine wc_seq ?_
  refine wc_drawn mixedT _ (fun _ h => h) [(0, .r), (1, .r), (2, .r), (3, .r), (4, .r), (5, .r), (6, .r), (7, .r), (8, .r), (9, .x false), (10, .x false), (11, .x true)] (by kernel_rfl) ?_
  refine ws_r rfl rfl rfl rfl (rd_move rfl) ?_
  refine ws_r rfl rfl rfl rfl (rd_nil rfl) ?_
  refine ws_r rfl rfl rfl rfl (rd_fieldAddr rfl) ?_
  refine ws_r rfl rfl rfl rfl (rd_load rfl) ?_
  refine ws_r rfl rfl rfl rfl (rd_load rfl) ?_
  cases hlk : mlook L id with
  | none =>
    refine ws_r rfl rfl rfl rfl (rd_look2_none (ek := idK) (en := entK) Try.underlying84 hL zero29 hlk rfl rfl) ?_
    refine ws_r rfl rfl rfl rfl (rd_move rfl) ?_
    refine ws_r rfl rfl rfl rfl (rd_extract rfl) ?_
    refine ws_r rfl rfl rfl rfl (rd_extract rfl) ?_
    refine ws_alloc rfl rfl rfl ?_
    intro b5 hb5
    refine ws_store rfl rfl rfl rfl (by first | exact .inl (by assumption) | exact .inr (by simp)) (fun _ h _ => by first | (cases h; done) | exact List.mem_cons_of_mem _ h | exact List.mem_cons_of_mem _ (List.mem_cons_of_mem _ h) | (simp at h ⊢; simp [h])) ?_
    refine ws_late rfl ?_
    refine ws_l rfl rfl rfl rfl (rd_assign rfl) ?_
    refine ws_nil ?_
    refine qe_then ?_
    refine wc_keep [(0, _), (3, _), (4, _), (5, _), (6, _)] rfl ?_
    refine wc_seq ?_
    refine wc_block ?_
    refine wc_seq ?_
    refine wc_plain [(0, .x true), (1, .x true), (2, .x true)] (by kernel_rfl) ?_
    refine ws_l rfl rfl rfl rfl (rd_move rfl) ?_
    refine ws_l rfl rfl rfl rfl (rd_not rfl) ?_
    refine ws_l rfl rfl rfl rfl (rd_assign rfl) ?_
    refine ws_nil ?_
    refine qe_then ?_
    refine wc_true rfl ?_
    refine wc_seq ?_
    refine wc_plain [(0, .x true)] (by kernel_rfl) ?_
    refine ws_l rfl rfl rfl rfl (rd_assign rfl) ?_
    refine ws_nil ?_
    refine qe_then ?_
    refine wc_ret ?_
    refine qe_block_ret ?_
    refine qe_then_ret ?_
    refine qe_body _ (.inl rfl) (res1 rfl (RV.tmp rfl)) ?_
    exact ret_end fun w hp hn ho => ⟨by (try simp only [cmpP, ne_eq, Decidable.not_not] at *); simp [goneErr, *], es, clock, hp _ _ (by simp), by rw [show goneL L id = L by (try simp only [cmpP, ne_eq, Decidable.not_not] at *); simp [goneL, *]]; exact hL⟩
  | some e0 =>
    refine ws_r rfl rfl rfl rfl (rd_look2_some (ek := idK) (en := entK) Try.underlying84 hL hlk rfl rfl) ?_
    refine ws_r rfl rfl rfl rfl (rd_move rfl) ?_
    refine ws_r rfl rfl rfl rfl (rd_extract rfl) ?_
    refine ws_r rfl rfl rfl rfl (rd_extract rfl) ?_
    refine ws_alloc rfl rfl rfl ?_
    intro b5 hb5
    refine ws_store rfl rfl rfl rfl (by first | exact .inl (by assumption) | exact .inr (by simp)) (fun _ h _ => by first | (cases h; done) | exact List.mem_cons_of_mem _ h | exact List.mem_cons_of_mem _ (List.mem_cons_of_mem _ h) | (simp at h ⊢; simp [h])) ?_
    refine ws_late rfl ?_
    refine ws_l rfl rfl rfl rfl (rd_assign rfl) ?_
    refine ws_nil ?_
    refine qe_then ?_
    refine wc_keep [(0, _), (3, _), (4, _), (5, _), (6, _)] rfl ?_
    refine wc_seq ?_
    refine wc_block ?_
    refine wc_seq ?_
    refine wc_plain [(0, .x true), (1, .x true), (2, .x true)] (by kernel_rfl) ?_
    refine ws_l rfl rfl rfl rfl (rd_move rfl) ?_
    refine ws_l rfl rfl rfl rfl (rd_not rfl) ?_
    refine ws_l rfl rfl rfl rfl (rd_assign rfl) ?_
    refine ws_nil ?_
    refine qe_then ?_
    refine wc_false rfl ?_
    refine wc_seq ?_
    refine wc_plain [(0, .x true), (1, .x true), (2, .x true), (3, .x true)] (by kernel_rfl) ?_
    refine ws_l rfl rfl rfl rfl (rd_fieldAddr rfl) ?_
    refine ws_l rfl rfl rfl rfl (rd_load rfl) ?_
    refine ws_lcmp rfl rfl rfl (rfl) (rfl) (rfl) ?_ ?_
    · intro h24
      refine ws_l rfl rfl rfl rfl (rd_assign rfl) ?_
      refine ws_nil ?_
      refine qe_then ?_
      refine wc_keep [(0, _), (3, _), (4, _), (5, _), (21, _)] rfl ?_
      refine wc_true rfl ?_
      refine wc_seq ?_
      refine wc_plain [(0, .x true)] (by kernel_rfl) ?_
      refine ws_l rfl rfl rfl rfl (rd_assign rfl) ?_
      refine ws_nil ?_
      refine qe_then ?_
      refine wc_ret ?_
      refine qe_block_ret ?_
      refine qe_then_ret ?_
      refine qe_body _ (.inl rfl) (res1 rfl (RV.tmp rfl)) ?_
      exact ret_end fun w hp hn ho => ⟨by (try simp only [cmpP, ne_eq, Decidable.not_not] at *); simp [goneErr, *], es, clock, hp _ _ (by simp), by rw [show goneL L id = L by (try simp only [cmpP, ne_eq, Decidable.not_not] at *); simp [goneL, *]]; exact hL⟩
    · intro h24
      refine ws_l rfl rfl rfl rfl (rd_assign rfl) ?_
      refine ws_nil ?_
      refine qe_then ?_
      refine wc_keep [(0, _), (3, _), (4, _), (5, _), (21, _)] rfl ?_
      refine wc_false rfl ?_
      refine wc_skip ?_
      refine qe_block ?_
      refine qe_then ?_
      refine wc_seq ?_
      refine wc_plain [(0, .x true), (1, .x true)] (by kernel_rfl) ?_
      refine ws_l rfl rfl rfl rfl (rd_fieldAddr rfl) ?_
      refine ws_store rfl rfl rfl rfl (by first | exact .inl (by assumption) | exact .inr (by simp)) (fun _ h _ => by first | (cases h; done) | exact List.mem_cons_of_mem _ h | exact List.mem_cons_of_mem _ (List.mem_cons_of_mem _ h) | (simp at h ⊢; simp [h])) ?_
      refine ws_nil ?_
      refine qe_then ?_
      refine wc_seq ?_
      refine wc_drawn mixedT _ (fun _ h => h) [(0, .r), (1, .r), (2, .r), (3, .r), (4, .r), (5, .r), (6, .x true)] (by kernel_rfl) ?_
      refine ws_r rfl rfl rfl rfl (rd_move rfl) ?_
      refine ws_r rfl rfl rfl rfl (rd_nil rfl) ?_
      refine ws_r rfl rfl rfl rfl (rd_fieldAddr rfl) ?_
      refine ws_r rfl rfl rfl rfl (rd_load rfl) ?_
      refine ws_r rfl rfl rfl rfl (rd_load rfl) ?_
      refine ws_r rfl rfl rfl rfl (rd_load rfl) ?_
      refine ws_late rfl ?_
      refine ws_update (ek := idK) (en := entK) Try.underlying84 hL rfl rfl rfl rfl rfl (.inr (by simp)) ?_
      intro es' clock' hL'
      refine ws_nil ?_
      refine qe_then ?_
      refine wc_keep [(4, _)] rfl ?_
      refine wc_seq ?_
      refine wc_plain [(0, .x true)] (by kernel_rfl) ?_
      refine ws_l rfl rfl rfl rfl (rd_assign rfl) ?_
      refine ws_nil ?_
      refine qe_then ?_
      refine wc_ret ?_
      refine qe_body _ (.inl rfl) (res1 rfl (RV.tmp rfl)) ?_
      exact ret_end fun w hp hn ho => ⟨by (try simp only [cmpP, ne_eq, Decidable.not_not] at *); simp [goneErr, *], es', clock', hp _ _ (by simp), by rw [show goneL L id = upd L id { e0 with st := 1 } by (try simp only [cmpP, ne_eq, Decidable.not_not] at *); simp [goneL, *]]; exact hL'⟩

end Go.Proofs.Ytegjmmjjchpeoaa
