/- Walks: Cutoff, Len, and the reference: Add, SetGone. No conditions. -/
import Derived.Test.YtegjmmjjchpeoaaW5
namespace Go.Proofs.Ytegjmmjjchpeoaa
open Go Go.RowKit Go.Sx
set_option linter.unusedSimpArgs false
set_option linter.unusedVariables false

set_option maxRecDepth 100000 in
set_option maxHeartbeats 1000000 in
theorem cutoff_ret (p m : Nat) (cut : Int) (w : World) (hη : HpOK [(p, .cells #[.map (some m), I cut] 86 (0, 0))] w) : Ret Try.prog 30 [ptr p] w [] (fun v _ => v = I cut) := by
  refine enter (n := 9) (args := [ptr p]) [] [(p, .cells #[.map (some m), I cut] 86 (0, 0))] Try.func30 rfl rfl rfl hη (by simp) ?_
  refine wc_seq ?_
  refine wc_plain [(0, .x true)] (by kernel_rfl) ?_
  refine ws_l rfl rfl rfl rfl (rd_assign rfl) ?_
  refine ws_nil ?_
  refine qe_then ?_
  refine wc_seq ?_
  refine wc_seq ?_
  refine wc_plain [(0, .x true), (1, .x true)] (by kernel_rfl) ?_
  refine ws_l rfl rfl rfl rfl (rd_move rfl) ?_
  refine ws_l rfl rfl rfl rfl (rd_ptr_nil rfl rfl Try.underlying35 rfl) ?_
  refine ws_nil ?_
  refine qe_then ?_
  refine wc_false rfl ?_
  refine wc_skip ?_
  refine qe_then ?_
  refine wc_seq ?_
  refine wc_plain [(0, .x true), (1, .x true), (2, .x true), (3, .x true), (4, .x true)] (by kernel_rfl) ?_
  refine ws_l rfl rfl rfl rfl (rd_move rfl) ?_
  refine ws_l rfl rfl rfl rfl (rd_nil rfl) ?_
  refine ws_l rfl rfl rfl rfl (rd_fieldAddr rfl) ?_
  refine ws_l rfl rfl rfl rfl (rd_load rfl) ?_
  refine ws_l rfl rfl rfl rfl (rd_assign rfl) ?_
  refine ws_nil ?_
  refine qe_then ?_
  refine wc_keep [(2, _)] rfl ?_
  refine wc_ret ?_
  refine qe_body _ (.inl rfl) (res1 rfl (RV.tmp rfl)) ?_
  exact ret_end fun w hp hn ho => rfl
set_option maxRecDepth 100000 in
set_option maxHeartbeats 1000000 in
theorem len_ret (p m : Nat) (cut : Int) (es : Array MapEntry) (clock : Nat) (L : HMap) (hL : MapIs idK entK es clock L) (hne : p ≠ m) (hlen : L.length < 1048576) (w : World) (hη : HpOK (hist p m cut es clock) w) : Ret Try.prog 36 [ptr p] w [] (fun v _ => v = I L.length) := by
  refine enter (n := 6) (args := [ptr p]) [] (hist p m cut es clock) Try.func36 rfl rfl rfl hη (by simp [hne]) ?_
  refine wc_seq ?_
  refine wc_plain [(0, .x true)] (by kernel_rfl) ?_
  refine ws_l rfl rfl rfl rfl (rd_assign rfl) ?_
  refine ws_nil ?_
  refine qe_then ?_
  refine wc_seq ?_
  refine wc_plain [(0, .x true), (1, .x true), (2, .x true), (3, .x true)] (by kernel_rfl) ?_
  refine ws_l rfl rfl rfl rfl (rd_move rfl) ?_
  refine ws_call (S' := []) (Φ := fun w v w' => ∃ (u : Value) (ν : Heap) (ys : List Ent), v = u ∧ OwnR w.heap.size 29 36 u ν ys.length (ys.flatMap entL) ∧ HpOK ν w' ∧ ys.Perm ((L.map Prod.snd).filter (fun _ => true)) ∧ ys.Pairwise (fun x y => Go.Proofs.ltOf (fun x y : Ent => cmpId x.id y.id) y x = false)) rfl rfl rfl rfl rfl (En.go) (fun w hp hn ho => sorted_ret (κ := []) isKeep_every isCmp_id p m cut es clock L hL hlen w (hp.mono (by simp)) hn) (fun _ h => by cases h) (fun _ _ h => by first | (cases h; done) | skip) ?_
  rintro vs w1 w2 - hon - - ⟨u, νs, yss, rfl, howns, hνs, hperms, hpws⟩
  refine ⟨νs, hνs, howns.nd, fun b hb => .inl (howns.far b hb), ?_⟩
  replace howns := howns.mono hon.size
  refine ws_l rfl rfl rfl rfl (rd_lenO howns rfl Try.underlying54) ?_
  refine ws_l rfl rfl rfl rfl (rd_assign rfl) ?_
  refine ws_nil ?_
  refine qe_then ?_
  refine wc_ret ?_
  refine qe_body _ (.inl rfl) (res1 rfl (RV.tmp rfl)) ?_
  exact ret_end fun w hp hn ho => by rw [hperms.length_eq, List.filter_eq_self.2 (by simp)]; simp
set_option maxRecDepth 100000 in
set_option maxHeartbeats 1000000 in
theorem add_ref (v : Value) (ν : Heap) (rows : List Ent) (hown : OwnR 0 24 36 v ν rows.length (rows.flatMap entL)) (hlen : rows.length < 1048576) (x : Ent) (w : World) (hν : HpOK ν w) (hnd : (ν.map Prod.fst).Nodup) : Ret Try.prog 41 [v, entK x] w [] (fun u w' => (addErr (decide (0 ≤ findF x.id rows 0)) x = 0 ∧ ∃ (vc : Value) (νc : Heap), u = .tuple #[vc, I 0] ∧ OwnR w.heap.size 24 36 vc νc (insF x rows).length ((insF x rows).flatMap entL) ∧ HpOK νc w') ∨ (addErr (decide (0 ≤ findF x.id rows 0)) x ≠ 0 ∧ u = .tuple #[v, I (addErr (decide (0 ≤ findF x.id rows 0)) x)])) := by
  refine enter (n := 51) (args := [v, entK x]) [] ν Try.func41 rfl rfl rfl hν hnd ?_
  refine wc_seq ?_
  refine wc_plain [(0, .x true), (1, .x true), (2, .x true)] (by kernel_rfl) ?_
  refine ws_box rfl rfl rfl rfl ?_
  intro b3 hb3
  refine ws_l rfl rfl rfl rfl (rd_assign rfl) ?_
  refine ws_l rfl rfl rfl rfl (rd_assign rfl) ?_
  refine ws_nil ?_
  refine qe_then ?_
  refine wc_seq ?_
  refine wc_seq ?_
  refine wc_plain [(0, .x true), (1, .x true), (2, .x true)] (by kernel_rfl) ?_
  refine ws_l rfl rfl rfl rfl (rd_load rfl) ?_
  refine ws_callp rfl rfl rfl rfl rfl (En.go) (fun w hp hn ho => check_ref _ w) ?_
  refine ws_l rfl rfl rfl rfl (rd_assign rfl) ?_
  refine ws_nil ?_
  refine qe_then ?_
  refine wc_seq ?_
  refine wc_plain [(0, .x true), (1, .x true)] (by kernel_rfl) ?_
  refine ws_l rfl rfl rfl rfl (rd_move rfl) ?_
  refine ws_lcmp rfl rfl rfl (rfl) (rfl) (rfl) ?_ ?_
  · intro h12
    refine ws_nil ?_
    refine qe_then ?_
    refine wc_true rfl ?_
    refine wc_seq ?_
    refine wc_plain [(0, .x true), (1, .x true), (2, .x true), (3, .x true)] (by kernel_rfl) ?_
    refine ws_l rfl rfl rfl rfl (rd_move rfl) ?_
    refine ws_l rfl rfl rfl rfl (rd_move rfl) ?_
    refine ws_l rfl rfl rfl rfl (rd_assign rfl) ?_
    refine ws_l rfl rfl rfl rfl (rd_assign rfl) ?_
    refine ws_nil ?_
    refine qe_then ?_
    refine wc_keep [(0, _), (3, _), (4, _), (5, _)] rfl ?_
    refine wc_ret ?_
    refine qe_then_ret ?_
    refine qe_body _ (.inl rfl) (res2 rfl (RV.tmp rfl) (RV.tmp rfl)) ?_
    exact ret_end fun w hp hn ho => .inr ⟨by (try simp only [cmpP, ne_eq, Decidable.not_not] at *); simp [addErr, *], by (try simp only [cmpP, ne_eq, Decidable.not_not] at *); simp [addErr, *]⟩
  · intro h12
    refine ws_nil ?_
    refine qe_then ?_
    refine wc_false rfl ?_
    refine wc_skip ?_
    refine qe_then ?_
    refine wc_keep [(0, _), (3, _), (4, _), (5, _)] rfl ?_
    refine wc_seq ?_
    refine wc_seq ?_
    refine wc_plain [(0, .x true), (1, .x true), (2, .x true), (3, .x true), (4, .x true)] (by kernel_rfl) ?_
    refine ws_l rfl rfl rfl rfl (rd_move rfl) ?_
    refine ws_l rfl rfl rfl rfl (rd_fieldAddr rfl) ?_
    refine ws_l rfl rfl rfl rfl (rd_load rfl) ?_
    refine ws_callp rfl rfl rfl rfl rfl (En.go) (fun w hp hn ho => find_ref v ν rows hown hlen _ w (hp.mono (fun _ h => by simp [h])) hnd) ?_
    refine ws_lcmp rfl rfl rfl (rfl) (rfl) (rfl) ?_ ?_
    · intro h19
      refine ws_nil ?_
      refine qe_then ?_
      refine wc_true rfl ?_
      refine wc_seq ?_
      refine wc_plain [(0, .x true), (1, .x true), (2, .x true)] (by kernel_rfl) ?_
      refine ws_l rfl rfl rfl rfl (rd_move rfl) ?_
      refine ws_l rfl rfl rfl rfl (rd_assign rfl) ?_
      refine ws_l rfl rfl rfl rfl (rd_assign rfl) ?_
      refine ws_nil ?_
      refine qe_then ?_
      refine wc_keep [(0, _), (3, _), (4, _), (5, _)] rfl ?_
      refine wc_ret ?_
      refine qe_then_ret ?_
      refine qe_body _ (.inl rfl) (res2 rfl (RV.tmp rfl) (RV.tmp rfl)) ?_
      exact ret_end fun w hp hn ho => .inr ⟨by (try simp only [cmpP, ne_eq, Decidable.not_not] at *); simp [addErr, *], by (try simp only [cmpP, ne_eq, Decidable.not_not] at *); simp [addErr, *]⟩
    · intro h19
      refine ws_nil ?_
      refine qe_then ?_
      refine wc_false rfl ?_
      refine wc_skip ?_
      refine qe_then ?_
      refine wc_keep [(0, _), (3, _), (4, _), (5, _)] rfl ?_
      refine wc_seq ?_
      refine wc_plain [(0, .x true)] (by kernel_rfl) ?_
      refine ws_l rfl rfl rfl rfl (rd_assign rfl) ?_
      refine ws_nil ?_
      refine qe_then ?_
      refine wc_seq ?_
      refine wc_block ?_
      refine wc_loop (fun mz ac w1 => ∃ (j : Nat), mz = rows.length - j ∧ (j ≤ rows.length) ∧ (rows.take j ++ insF x (rows.drop j) = insF x rows) ∧ St 51 w [] [(0, v), (3, ptr b3), (7, I j), (4, .slice none 0 0), (5, I 0)] ((b3, .cells (entC x) 24 (0, 0)) :: ν) ac w1) _ (fun ac w1 hs => ⟨0, rfl, (by omega), (by simp), st_sub hs _ rfl⟩) ?_
      rintro _ ac1 wl1 ⟨j, rfl, hj, hf, hs1⟩
      refine wc_at hs1 ?_
      refine wc_seq ?_
      refine wc_seq ?_
      refine wc_drawn mixedT _ (fun _ h => h) [(0, .r), (1, .r), (2, .r), (3, .r), (4, .r), (5, .r), (6, .r), (7, .r), (8, .r), (9, .r), (10, .r), (11, .r), (12, .x true), (13, .x true)] (by kernel_rfl) ?_
      refine ws_r rfl rfl rfl rfl (rd_move rfl) ?_
      refine ws_r rfl rfl rfl rfl (rd_move rfl) ?_
      refine ws_r rfl rfl rfl rfl (rd_lenO hown rfl Try.underlying36) ?_
      refine ws_rcmp rfl rfl rfl (rfl) (rfl) (rfl) ?_ ?_
      · intro h24
        refine ws_r rfl rfl rfl rfl (rd_move rfl) ?_
        refine ws_r rfl rfl rfl rfl (rd_move rfl) ?_
        refine ws_r rfl rfl rfl rfl (rd_move rfl) ?_
        obtain ⟨gr, capr, curr, rfl, rfl, hgr, hcapr, hcurr⟩ := OwnR.opened hown (by omega)
        obtain ⟨y, hy⟩ := at_ex (l := rows) (j := j) (by omega)
        have aty := at_row hcurr hy
        refine ws_r rfl rfl rfl rfl (rd_ix rfl rfl Try.underlying36 Try.sizeOf24 (by omega)) ?_
        refine ws_r rfl rfl rfl rfl (rd_fieldAddr rfl) ?_
        refine ws_r rfl rfl rfl rfl (rd_load rfl) ?_
        refine ws_r rfl rfl rfl rfl (rd_fieldAddr rfl) ?_
        refine ws_r rfl rfl rfl rfl (rd_load rfl) ?_
        refine ws_late rfl ?_
        refine ws_callb (decide (idLt _ _)) rfl rfl rfl rfl rfl (En.go) (fun w hp hn ho => before_ref _ _ w) ?_ ?_
        · intro h33
          refine ws_l rfl rfl rfl rfl (rd_pick_t rfl rfl) ?_
          refine ws_nil ?_
          refine qe_then ?_
          refine wc_true rfl ?_
          refine wc_skip ?_
          refine qe_then ?_
          refine wc_block ?_
          refine wc_plain [(0, .x true), (1, .x true), (2, .x true)] (by kernel_rfl) ?_
          refine ws_l rfl rfl rfl rfl (rd_move rfl) ?_
          refine ws_l rfl rfl rfl rfl (rd_arith (((j + 1 : Nat) : Int)) rfl rfl rfl (by rw [wrap_i64 _ (by omega) (by omega)]; omega)) ?_
          refine ws_l rfl rfl rfl rfl (rd_assign rfl) ?_
          refine ws_nil ?_
          refine qe_block ?_
          exact qe_loop fun ac2 w2 hs2 => ⟨_, by omega, j + 1, rfl, (by omega), (by rw [← hf, drop_at hy, take_at hy]; have hlt := of_decide_eq_true h33; simp [insF, hlt]), st_sub hs2 _ rfl⟩
        · intro h33
          refine ws_l rfl rfl rfl rfl (rd_pick_t rfl rfl) ?_
          refine ws_nil ?_
          refine qe_then ?_
          refine wc_false rfl ?_
          refine wc_exit ?_
          refine qe_then_exit ?_
          refine qe_then_exit ?_
          refine qe_block_exit ?_
          refine qe_then ?_
          refine wc_keep [(0, _), (3, _), (4, _), (5, _), (7, _)] rfl ?_
          refine wc_seq ?_
          refine wc_plain [(0, .x true), (1, .x true), (2, .x true), (3, .x true), (4, .x true), (5, .x true)] (by kernel_rfl) ?_
          refine ws_buildSlice rfl rfl rfl rfl ?_
          intro b37 hb37
          have hl0 := OwnR.lit0 (E := 24) (k := 36) hb37
          refine ws_l rfl rfl rfl rfl (rd_move rfl) ?_
          refine ws_l rfl rfl rfl rfl (rd_move rfl) ?_
          obtain ⟨u40, hu40, hs40⟩ := OwnR.upto hown .i64 j hj Try.underlying36 Try.sizeOf24
          refine ws_l rfl rfl rfl rfl (rd_slice_h Try.underlying36 rfl rfl hu40) ?_
          refine ws_appendS rfl rfl rfl rfl rfl hl0 (hs40.mono (fun _ h => by simp [h])) (fun u hu => by have := List.mem_of_mem_take hu; obtain ⟨y, _, hy⟩ := List.mem_flatMap.1 this; exact entL_one y u hy) (by simp only [maxLen]; omega) (by omega) (fun _ _ _ h => by first | (cases h; done) | skip) ?_
          intro va νa howna
          have hra : OwnR w.heap.size 24 36 va νa (rows.take j).length ((rows.take j).flatMap entL) := by simpa [flat_take entL_len, Nat.min_eq_left hj] using howna
          refine ws_l rfl rfl rfl rfl (rd_assign rfl) ?_
          refine ws_nil ?_
          refine qe_then ?_
          refine wc_keep [(0, _), (3, _), (4, _), (5, _), (7, _), (8, _)] rfl ?_
          refine wc_seq ?_
          refine wc_plain [(0, .x true), (1, .x true), (2, .x true), (3, .x true), (4, .x true)] (by kernel_rfl) ?_
          refine ws_l rfl rfl rfl rfl (rd_move rfl) ?_
          refine ws_l rfl rfl rfl rfl (rd_load rfl) ?_
          refine ws_buildSlice rfl rfl rfl rfl ?_
          intro b44 hb44
          have hjl : (rows.take j).length = j := by simp; omega
          refine ws_append rfl rfl rfl rfl rfl hra (by simp [entC_size]) (entC_one _) (by simp only [maxLen]; omega) (by omega) (fun _ _ _ h => by first | (cases h; done) | skip) ?_
          intro vb νb hownb
          have hrb : OwnR w.heap.size 24 36 vb νb (rows.take j ++ [x]).length ((rows.take j ++ [x]).flatMap entL) := Row.app hownb rfl (by simp)
          refine ws_l rfl rfl rfl rfl (rd_assign rfl) ?_
          refine ws_nil ?_
          refine qe_then ?_
          refine wc_keep [(0, _), (4, _), (5, _), (7, _), (8, _)] rfl ?_
          refine wc_seq ?_
          refine wc_plain [(0, .x true), (1, .x true), (2, .x true), (3, .x true), (4, .x true), (5, .x true), (6, .x true)] (by kernel_rfl) ?_
          refine ws_l rfl rfl rfl rfl (rd_move rfl) ?_
          refine ws_l rfl rfl rfl rfl (rd_move rfl) ?_
          refine ws_l rfl rfl rfl rfl (rd_move rfl) ?_
          obtain ⟨u49, hu49, hs49⟩ := OwnR.behind hown .i64 j hj Try.underlying36 Try.sizeOf24
          refine ws_l rfl rfl rfl rfl (rd_slice_l Try.underlying36 rfl rfl hu49) ?_
          refine ws_appendS rfl rfl rfl rfl rfl hrb (hs49.mono (fun _ h => by simp [h])) (fun u hu => by have := List.mem_of_mem_drop hu; obtain ⟨y, _, hy⟩ := List.mem_flatMap.1 this; exact entL_one y u hy) (by simp only [maxLen, List.length_append, hjl, List.length_singleton]; omega) (by simp only [List.length_append, hjl, List.length_singleton]; omega) (fun _ _ _ h => by first | (cases h; done) | skip) ?_
          intro vc νc hownc
          have hrc := Row.app (ys := rows.drop j) hownc (by simp) (flat_drop entL_len rows j)
          refine ws_l rfl rfl rfl rfl (rd_assign rfl) ?_
          refine ws_l rfl rfl rfl rfl (rd_assign rfl) ?_
          refine ws_nil ?_
          refine qe_then ?_
          refine wc_keep [(4, _), (5, _)] rfl ?_
          refine wc_ret ?_
          refine qe_body _ (.inl rfl) (res2 rfl (RV.tmp rfl) (RV.tmp rfl)) ?_
          have hst : insF x (rows.drop j) = x :: rows.drop j := by rw [drop_at hy]; have hlt := of_decide_eq_false h33; simp [insF, hlt]
          exact ret_end fun w hp hn ho => .inl ⟨by (try simp only [cmpP, ne_eq, Decidable.not_not] at *); simp [addErr, *], vc, νc, rfl, by rw [← hf, hst, List.append_cons]; exact hrc, hp.mono (by intro q hq; simp [hq])⟩
      · intro h24
        refine ws_r rfl rfl rfl rfl (rd_move rfl) ?_
        refine ws_rskip rfl rfl rfl rfl ?_
        refine ws_rskip rfl rfl rfl rfl ?_
        refine ws_rskip rfl rfl rfl rfl ?_
        refine ws_rskip rfl rfl rfl rfl ?_
        refine ws_rskip rfl rfl rfl rfl ?_
        refine ws_rskip rfl rfl rfl rfl ?_
        refine ws_rskip rfl rfl rfl rfl ?_
        refine ws_late rfl ?_
        refine ws_xskip rfl rfl rfl rfl ?_
        refine ws_l rfl rfl rfl rfl (rd_pick_f rfl rfl) ?_
        refine ws_nil ?_
        refine qe_then ?_
        refine wc_false rfl ?_
        refine wc_exit ?_
        refine qe_then_exit ?_
        refine qe_then_exit ?_
        refine qe_block_exit ?_
        refine qe_then ?_
        refine wc_keep [(0, _), (3, _), (4, _), (5, _), (7, _)] rfl ?_
        refine wc_seq ?_
        refine wc_plain [(0, .x true), (1, .x true), (2, .x true), (3, .x true), (4, .x true), (5, .x true)] (by kernel_rfl) ?_
        refine ws_buildSlice rfl rfl rfl rfl ?_
        intro b37 hb37
        have hl0 := OwnR.lit0 (E := 24) (k := 36) hb37
        refine ws_l rfl rfl rfl rfl (rd_move rfl) ?_
        refine ws_l rfl rfl rfl rfl (rd_move rfl) ?_
        obtain ⟨u40, hu40, hs40⟩ := OwnR.upto hown .i64 j hj Try.underlying36 Try.sizeOf24
        refine ws_l rfl rfl rfl rfl (rd_slice_h Try.underlying36 rfl rfl hu40) ?_
        refine ws_appendS rfl rfl rfl rfl rfl hl0 (hs40.mono (fun _ h => by simp [h])) (fun u hu => by have := List.mem_of_mem_take hu; obtain ⟨y, _, hy⟩ := List.mem_flatMap.1 this; exact entL_one y u hy) (by simp only [maxLen]; omega) (by omega) (fun _ _ _ h => by first | (cases h; done) | skip) ?_
        intro va νa howna
        have hra : OwnR w.heap.size 24 36 va νa (rows.take j).length ((rows.take j).flatMap entL) := by simpa [flat_take entL_len, Nat.min_eq_left hj] using howna
        refine ws_l rfl rfl rfl rfl (rd_assign rfl) ?_
        refine ws_nil ?_
        refine qe_then ?_
        refine wc_keep [(0, _), (3, _), (4, _), (5, _), (7, _), (8, _)] rfl ?_
        refine wc_seq ?_
        refine wc_plain [(0, .x true), (1, .x true), (2, .x true), (3, .x true), (4, .x true)] (by kernel_rfl) ?_
        refine ws_l rfl rfl rfl rfl (rd_move rfl) ?_
        refine ws_l rfl rfl rfl rfl (rd_load rfl) ?_
        refine ws_buildSlice rfl rfl rfl rfl ?_
        intro b44 hb44
        have hjl : (rows.take j).length = j := by simp; omega
        refine ws_append rfl rfl rfl rfl rfl hra (by simp [entC_size]) (entC_one _) (by simp only [maxLen]; omega) (by omega) (fun _ _ _ h => by first | (cases h; done) | skip) ?_
        intro vb νb hownb
        have hrb : OwnR w.heap.size 24 36 vb νb (rows.take j ++ [x]).length ((rows.take j ++ [x]).flatMap entL) := Row.app hownb rfl (by simp)
        refine ws_l rfl rfl rfl rfl (rd_assign rfl) ?_
        refine ws_nil ?_
        refine qe_then ?_
        refine wc_keep [(0, _), (4, _), (5, _), (7, _), (8, _)] rfl ?_
        refine wc_seq ?_
        refine wc_plain [(0, .x true), (1, .x true), (2, .x true), (3, .x true), (4, .x true), (5, .x true), (6, .x true)] (by kernel_rfl) ?_
        refine ws_l rfl rfl rfl rfl (rd_move rfl) ?_
        refine ws_l rfl rfl rfl rfl (rd_move rfl) ?_
        refine ws_l rfl rfl rfl rfl (rd_move rfl) ?_
        obtain ⟨u49, hu49, hs49⟩ := OwnR.behind hown .i64 j hj Try.underlying36 Try.sizeOf24
        refine ws_l rfl rfl rfl rfl (rd_slice_l Try.underlying36 rfl rfl hu49) ?_
        refine ws_appendS rfl rfl rfl rfl rfl hrb (hs49.mono (fun _ h => by simp [h])) (fun u hu => by have := List.mem_of_mem_drop hu; obtain ⟨y, _, hy⟩ := List.mem_flatMap.1 this; exact entL_one y u hy) (by simp only [maxLen, List.length_append, hjl, List.length_singleton]; omega) (by simp only [List.length_append, hjl, List.length_singleton]; omega) (fun _ _ _ h => by first | (cases h; done) | skip) ?_
        intro vc νc hownc
        have hrc := Row.app (ys := rows.drop j) hownc (by simp) (flat_drop entL_len rows j)
        refine ws_l rfl rfl rfl rfl (rd_assign rfl) ?_
        refine ws_l rfl rfl rfl rfl (rd_assign rfl) ?_
        refine ws_nil ?_
        refine qe_then ?_
        refine wc_keep [(4, _), (5, _)] rfl ?_
        refine wc_ret ?_
        refine qe_body _ (.inl rfl) (res2 rfl (RV.tmp rfl) (RV.tmp rfl)) ?_
        have hst : insF x (rows.drop j) = x :: rows.drop j := by rw [List.drop_eq_nil_of_le (by omega)]; rfl
        exact ret_end fun w hp hn ho => .inl ⟨by (try simp only [cmpP, ne_eq, Decidable.not_not] at *); simp [addErr, *], vc, νc, rfl, by rw [← hf, hst, List.append_cons]; exact hrc, hp.mono (by intro q hq; simp [hq])⟩
set_option maxRecDepth 100000 in
set_option maxHeartbeats 1000000 in
theorem gone_ref (v : Value) (ν : Heap) (rows : List Ent) (hown : OwnR 0 24 36 v ν rows.length (rows.flatMap entL)) (hlen : rows.length < 1048576) (id : Id) (w : World) (hν : HpOK ν w) (hnd : (ν.map Prod.fst).Nodup) : Ret Try.prog 42 [v, idK id] w [] (fun u w' => (goneE id rows = 0 ∧ ∃ (vc : Value) (νc : Heap), u = .tuple #[vc, I 0] ∧ OwnR w.heap.size 24 36 vc νc (goneF id rows).length ((goneF id rows).flatMap entL) ∧ HpOK νc w') ∨ (goneE id rows ≠ 0 ∧ u = .tuple #[v, I (goneE id rows)])) := by
  refine enter (n := 29) (args := [v, idK id]) [] ν Try.func42 rfl rfl rfl hν hnd ?_
  refine wc_seq ?_
  refine wc_plain [(0, .x true), (1, .x true), (2, .x true)] (by kernel_rfl) ?_
  refine ws_box rfl rfl rfl rfl ?_
  intro b3 hb3
  refine ws_l rfl rfl rfl rfl (rd_assign rfl) ?_
  refine ws_l rfl rfl rfl rfl (rd_assign rfl) ?_
  refine ws_nil ?_
  refine qe_then ?_
  refine wc_seq ?_
  refine wc_plain [(0, .x true), (1, .x true), (2, .x true), (3, .x true)] (by kernel_rfl) ?_
  refine ws_l rfl rfl rfl rfl (rd_move rfl) ?_
  refine ws_l rfl rfl rfl rfl (rd_load rfl) ?_
  refine ws_callp rfl rfl rfl rfl rfl (En.go) (fun w hp hn ho => find_ref v ν rows hown hlen _ w (hp.mono (fun _ h => by simp [h])) hnd) ?_
  refine ws_l rfl rfl rfl rfl (rd_assign rfl) ?_
  refine ws_nil ?_
  refine qe_then ?_
  refine wc_keep [(0, _), (4, _), (5, _), (6, _)] rfl ?_
  refine wc_seq ?_
  refine wc_seq ?_
  refine wc_plain [(0, .x true), (1, .x true)] (by kernel_rfl) ?_
  refine ws_l rfl rfl rfl rfl (rd_move rfl) ?_
  rcases findF_first (id := id) (l := rows) (k := 0) (by omega) with ⟨hf1, hf2⟩ | ⟨j, x, hx, hfj, hfe, hfg⟩
  ·
    refine ws_l rfl rfl rfl rfl (rd_cmp_t rfl rfl rfl hf1) ?_
    refine ws_nil ?_
    refine qe_then ?_
    refine wc_true rfl ?_
    refine wc_seq ?_
    refine wc_plain [(0, .x true), (1, .x true), (2, .x true)] (by kernel_rfl) ?_
    refine ws_l rfl rfl rfl rfl (rd_move rfl) ?_
    refine ws_l rfl rfl rfl rfl (rd_assign rfl) ?_
    refine ws_l rfl rfl rfl rfl (rd_assign rfl) ?_
    refine ws_nil ?_
    refine qe_then ?_
    refine wc_ret ?_
    refine qe_then_ret ?_
    refine qe_body _ (.inl rfl) (res2 rfl (RV.tmp rfl) (RV.tmp rfl)) ?_
    exact ret_end fun w hp hn ho => .inr ⟨by (try simp only [cmpP, ne_eq, Decidable.not_not] at *); simp [*], by (try simp only [cmpP, ne_eq, Decidable.not_not] at *); simp [*]⟩
  · have hjl := (List.getElem?_eq_some_iff.1 hx).1
    have hfj2 : findF id rows 0 = (j : Int) := by omega
    obtain ⟨gr, capr, curr, rfl, rfl, hgr, hcapr, hcurr⟩ := OwnR.opened hown (by omega)
    have atx := at_row hcurr hx
    refine ws_l rfl rfl rfl rfl (rd_cmp_f rfl rfl rfl (by simp only [cmpP]; omega)) ?_
    rw [hfj2]
    refine ws_nil ?_
    refine qe_then ?_
    refine wc_false rfl ?_
    refine wc_skip ?_
    refine qe_then ?_
    refine wc_seq ?_
    refine wc_seq ?_
    refine wc_plain [(0, .x true), (1, .x true), (2, .x true), (3, .x true), (4, .x true), (5, .x true)] (by kernel_rfl) ?_
    refine ws_l rfl rfl rfl rfl (rd_move rfl) ?_
    refine ws_l rfl rfl rfl rfl (rd_move rfl) ?_
    refine ws_l rfl rfl rfl rfl (rd_ix rfl rfl Try.underlying36 Try.sizeOf24 (by omega)) ?_
    refine ws_l rfl rfl rfl rfl (rd_fieldAddr rfl) ?_
    refine ws_l rfl rfl rfl rfl (rd_load rfl) ?_
    refine ws_lcmp rfl rfl rfl (rfl) (rfl) (rfl) ?_ ?_
    · intro h19
      refine ws_nil ?_
      refine qe_then ?_
      refine wc_keep [(0, _), (4, _), (5, _), (6, _), (19, _)] rfl ?_
      refine wc_true rfl ?_
      refine wc_seq ?_
      refine wc_plain [(0, .x true), (1, .x true), (2, .x true)] (by kernel_rfl) ?_
      refine ws_l rfl rfl rfl rfl (rd_move rfl) ?_
      refine ws_l rfl rfl rfl rfl (rd_assign rfl) ?_
      refine ws_l rfl rfl rfl rfl (rd_assign rfl) ?_
      refine ws_nil ?_
      refine qe_then ?_
      refine wc_ret ?_
      refine qe_then_ret ?_
      refine qe_body _ (.inl rfl) (res2 rfl (RV.tmp rfl) (RV.tmp rfl)) ?_
      exact ret_end fun w hp hn ho => .inr ⟨by (try simp only [cmpP, ne_eq, Decidable.not_not] at *); simp [*], by (try simp only [cmpP, ne_eq, Decidable.not_not] at *); simp [*]⟩
    · intro h19
      refine ws_nil ?_
      refine qe_then ?_
      refine wc_keep [(0, _), (4, _), (5, _), (6, _), (19, _)] rfl ?_
      refine wc_false rfl ?_
      refine wc_skip ?_
      refine qe_then ?_
      refine wc_seq ?_
      refine wc_plain [(0, .x true), (1, .x true), (2, .x true), (3, .x true)] (by kernel_rfl) ?_
      refine ws_buildSlice rfl rfl rfl rfl ?_
      intro b21 hb21
      have hl0 := OwnR.lit0 (E := 24) (k := 36) hb21
      refine ws_l rfl rfl rfl rfl (rd_move rfl) ?_
      refine ws_appendS rfl rfl rfl rfl rfl hl0 (hown.src.mono (fun _ h => by simp at h ⊢; simp [h])) (fun u hu => by obtain ⟨y, _, hy⟩ := List.mem_flatMap.1 hu; exact entL_one y u hy) (by simp only [maxLen]; omega) (by omega) (fun _ _ _ h => by first | (cases h; done) | skip) ?_
      intro va νa howna
      have hownz : OwnR w.heap.size 24 36 va νa rows.length (rows.flatMap entL) := by simpa using howna
      refine ws_l rfl rfl rfl rfl (rd_assign rfl) ?_
      refine ws_nil ?_
      refine qe_then ?_
      refine wc_keep [(4, _), (5, _), (6, _), (7, _)] rfl ?_
      refine wc_seq ?_
      refine wc_plain [(0, .x true), (1, .x true), (2, .x true), (3, .x true), (4, .x true)] (by kernel_rfl) ?_
      refine ws_l rfl rfl rfl rfl (rd_move rfl) ?_
      refine ws_l rfl rfl rfl rfl (rd_move rfl) ?_
      obtain ⟨gz, capz, curz, rfl, rfl, hgz, hcapz, hcurz⟩ := OwnR.opened hownz (by omega)
      refine ws_l rfl rfl rfl rfl (rd_ix rfl rfl Try.underlying36 Try.sizeOf24 (by omega)) ?_
      refine ws_l rfl rfl rfl rfl (rd_fieldAddr rfl) ?_
      obtain ⟨hset, howns⟩ := row_set hownz hx 1
      refine ws_store rfl rfl rfl rfl (.inl (by assumption)) (fun _ h _ => by first | (cases h; done) | exact List.mem_cons_of_mem _ h) ?_
      refine ws_nil ?_
      refine qe_then ?_
      refine wc_keep [(4, _), (5, _), (7, _)] rfl ?_
      refine wc_seq ?_
      refine wc_plain [(0, .x true), (1, .x true), (2, .x true)] (by kernel_rfl) ?_
      refine ws_l rfl rfl rfl rfl (rd_move rfl) ?_
      refine ws_l rfl rfl rfl rfl (rd_assign rfl) ?_
      refine ws_l rfl rfl rfl rfl (rd_assign rfl) ?_
      refine ws_nil ?_
      refine qe_then ?_
      refine wc_ret ?_
      refine qe_body _ (.inl rfl) (res2 rfl (RV.tmp rfl) (RV.tmp rfl)) ?_
      exact ret_end fun w hp hn ho => .inl ⟨by rw [hfe]; (try simp only [cmpP, ne_eq, Decidable.not_not] at *); simp [*], _, _, rfl, by rw [hfg]; exact howns, hp.mono (by simp)⟩

end Go.Proofs.Ytegjmmjjchpeoaa
