/- Walks: Forget of a history and of the reference. No conditions. -/
import Derived.Test.YtegjmmjjchpeoaaW4
namespace Go.Proofs.Ytegjmmjjchpeoaa
open Go Go.RowKit Go.Sx
set_option linter.unusedSimpArgs false
set_option linter.unusedVariables false

theorem isCmp_id : IsCmp 49 (fun x y => cmpId x.id y.id) := ⟨En.go, byid_ret, swoId⟩
theorem isCmp_arr : IsCmp 53 cmpArr := ⟨En.go, byarr_ret, swoArr⟩
theorem isKeep_gone {b : Nat} {now : Int} (h : 0 ≤ now ∧ now ≤ 105190559) : IsKeep 48 #[ptr b] [(b, .cells #[I now] 3 (0, 0))] (fun x => goneB x now) := ⟨En.go, fun x w hp => keep_ret b now h x w hp⟩
theorem isKeep_since {b : Nat} {now : Int} : IsKeep 52 #[ptr b] [(b, .cells #[I now] 3 (0, 0))] (fun x => decide (now ≤ x.arr)) := ⟨En.go, fun x w hp => since_keep b now x w hp⟩
theorem isKeep_every : IsKeep 51 #[] [] (fun _ => true) := ⟨En.go, fun x w _ => every_ret x w⟩
set_option maxRecDepth 100000 in
set_option maxHeartbeats 1000000 in
theorem forget_ret (p m : Nat) (cut : Int) (es : Array MapEntry) (clock : Nat) (L : HMap) (hL : MapIs idK entK es clock L) (hne : p ≠ m) (hlen : L.length < 1048576) (now : Int) (w : World) (hη : HpOK (hist p m cut es clock) w) : Ret Try.prog 21 [ptr p, I now] w [p, m] (fun v w' => ∃ (u : Value) (ν : Heap) (gone : List Ent) (es' : Array MapEntry) (L' : HMap) (cut' : Int), v = u ∧ OwnR w.heap.size 27 32 u ν gone.length (rowL (gone.map Ent.id)) ∧ HpOK ν w' ∧ HpOK (hist p m cut' es' clock) w' ∧ MapIs idK entK es' clock L' ∧ L' = L.filter (fun q => !(gone.map Ent.id).contains q.1) ∧ cut' = (if gone = [] then cut else if cut < now then now else cut) ∧ gone.Perm ((L.map Prod.snd).filter (fun x => forgetB x now)) ∧ gone.Pairwise (fun x y => Go.Proofs.ltOf (fun x y : Ent => cmpId x.id y.id) y x = false)) := by
  refine enter (n := 41) (args := [ptr p, I now]) [p, m] (hist p m cut es clock) Try.func21 rfl rfl rfl hη (by simp [hne]) ?_
  refine wc_seq ?_
  refine wc_plain [(0, .x true), (1, .x true)] (by kernel_rfl) ?_
  refine ws_box rfl rfl rfl rfl ?_
  intro b3 hb3
  refine ws_l rfl rfl rfl rfl (rd_assign rfl) ?_
  refine ws_nil ?_
  refine qe_then ?_
  refine wc_seq ?_
  refine wc_seq ?_
  refine wc_plain [(0, .x true), (1, .x true), (2, .x true)] (by kernel_rfl) ?_
  refine ws_l rfl rfl rfl rfl (rd_load rfl) ?_
  refine ws_callb (minuteB _) rfl rfl rfl rfl rfl (En.go) (fun w hp hn ho => minute_ret _ w) ?_ ?_
  · intro h9
    have hb9 := minuteB_bounds h9
    refine ws_l rfl rfl rfl rfl (rd_not rfl) ?_
    refine ws_nil ?_
    refine qe_then ?_
    refine wc_false rfl ?_
    refine wc_skip ?_
    refine qe_then ?_
    refine wc_seq ?_
    refine wc_plain [(0, .x true)] (by kernel_rfl) ?_
    refine ws_l rfl rfl rfl rfl (rd_assign rfl) ?_
    refine ws_nil ?_
    refine qe_then ?_
    refine wc_seq ?_
    refine wc_seq ?_
    refine wc_plain [(0, .x true), (1, .x true), (2, .x true), (3, .x true), (4, .x true)] (by kernel_rfl) ?_
    refine ws_l rfl rfl rfl rfl (rd_move rfl) ?_
    refine ws_l rfl rfl rfl rfl (rd_mkfunc rfl rfl) ?_
    refine ws_call (S' := []) (Φ := fun w v w' => ∃ (u : Value) (ν : Heap) (ys : List Ent), v = u ∧ OwnR w.heap.size 29 36 u ν ys.length (ys.flatMap entL) ∧ HpOK ν w' ∧ ys.Perm ((L.map Prod.snd).filter (fun x => goneB x now)) ∧ ys.Pairwise (fun x y => Go.Proofs.ltOf (fun x y : Ent => cmpId x.id y.id) y x = false)) rfl rfl rfl rfl rfl (En.go) (fun w hp hn ho => sorted_ret (isKeep_gone (b := b3) hb9) isCmp_id p m cut es clock L hL hlen w (hp.mono (by simp)) (by simp at hn ⊢; omega)) (fun _ h => by cases h) (fun _ _ h => by first | (cases h; done) | skip) ?_
    rintro v13 w1 w2 - hon - - ⟨u, ν13, gone, rfl, hown13, hν13, hperm, hpw⟩
    refine ⟨ν13, hν13, hown13.nd, fun b hb => .inl (hown13.far b hb), ?_⟩
    replace hown13 := hown13.mono hon.size
    have hgl : gone.length ≤ L.length := by rw [hperm.length_eq]; exact Nat.le_trans (List.length_filter_le _ _) (by simp)
    refine ws_l rfl rfl rfl rfl (rd_lenO hown13 rfl Try.underlying54) ?_
    refine ws_l rfl rfl rfl rfl (rd_move rfl) ?_
    refine ws_nil ?_
    refine qe_then ?_
    refine wc_keep [(0, _), (3, _), (4, _), (5, _), (13, _), (14, _), (15, _)] rfl ?_
    refine wc_block ?_
    refine wc_loop (fun mz ac w1 => ∃ (j : Nat) (es1 : Array MapEntry) (L1 : HMap) (cut1 : Int) (v5 : Value) (ν5 : Heap), mz = gone.length - j ∧ (j ≤ gone.length) ∧ (MapIs idK entK es1 clock L1) ∧ (L1 = L.filter (fun q => !((gone.take j).map Ent.id).contains q.1)) ∧ (cut1 = (if j = 0 then cut else if cut < now then now else cut)) ∧ (OwnR w.heap.size 27 32 v5 ν5 j (rowL ((gone.take j).map Ent.id))) ∧ St 41 w [p, m] [(0, ptr p), (3, ptr b3), (13, v13), (14, I gone.length), (15, I j), (5, v5)] (ν5 ++ (ν13 ++ ((b3, .cells #[I now] 3 (0, 0)) :: hist p m cut1 es1 clock))) ac w1) _ (fun ac w1 hs => ⟨0, es, L, cut, .slice none 0 0, [], rfl, (by omega), (hL), ((List.filter_eq_self.2 (by simp)).symm), (by simp), (OwnR.nil _ _ _), st_sub hs _ rfl⟩) ?_
    rintro _ ac1 wl1 ⟨j, es1, L1, cut1, v5, ν5, rfl, hj, hL1, hLe, hc1, hown, hs1⟩
    refine wc_at hs1 ?_
    refine wc_seq ?_
    refine wc_plain [(0, .x true)] (by kernel_rfl) ?_
    refine ws_lcmp rfl rfl rfl (rfl) (rfl) (rfl) ?_ ?_
    · intro h16
      refine ws_nil ?_
      refine qe_then ?_
      refine wc_seq ?_
      refine wc_true rfl ?_
      refine wc_skip ?_
      refine qe_then ?_
      refine wc_seq ?_
      refine wc_block ?_
      refine wc_seq ?_
      refine wc_plain [(0, .x true), (1, .x true), (2, .x true), (3, .x true)] (by kernel_rfl) ?_
      obtain ⟨gq, capq, curq, rfl, rfl, hgq, hcapq, hcurq⟩ := OwnR.opened hown13 (by omega)
      obtain ⟨x, hx⟩ := at_ex (l := gone) (j := j) (by omega)
      have atx := at_row hcurq hx
      refine ws_l rfl rfl rfl rfl (rd_ix rfl rfl Try.underlying54 Try.sizeOf29 (by omega)) ?_
      refine ws_l rfl rfl rfl rfl (rd_load rfl) ?_
      refine ws_alloc rfl rfl rfl ?_
      intro b7 hb7
      refine ws_store rfl rfl rfl rfl (by first | exact .inl (by assumption) | exact .inr (by simp)) (fun _ h _ => by first | (cases h; done) | exact List.mem_cons_of_mem _ h | exact List.mem_cons_of_mem _ (List.mem_cons_of_mem _ h) | (simp at h ⊢; simp [h])) ?_
      refine ws_nil ?_
      refine qe_then ?_
      refine wc_seq ?_
      refine wc_drawn mixedT _ (fun _ h => h) [(0, .r), (1, .r), (2, .r), (3, .r), (4, .r), (5, .r), (6, .x true)] (by kernel_rfl) ?_
      refine ws_r rfl rfl rfl rfl (rd_move rfl) ?_
      refine ws_r rfl rfl rfl rfl (rd_nil rfl) ?_
      refine ws_r rfl rfl rfl rfl (rd_fieldAddr rfl) ?_
      refine ws_r rfl rfl rfl rfl (rd_load rfl) ?_
      refine ws_r rfl rfl rfl rfl (rd_fieldAddr rfl) ?_
      refine ws_r rfl rfl rfl rfl (rd_load rfl) ?_
      refine ws_late rfl ?_
      refine ws_delete (ek := idK) (en := entK) Try.underlying84 hL1 rfl rfl rfl rfl (.inr (by simp)) (fun _ _ h _ => by cases h) ?_
      intro es2 hL2
      refine ws_nil ?_
      refine qe_then ?_
      refine wc_seq ?_
      refine wc_plain [(0, .x true), (1, .x true), (2, .x true), (3, .x true), (4, .x true), (5, .x true)] (by kernel_rfl) ?_
      refine ws_l rfl rfl rfl rfl (rd_move rfl) ?_
      refine ws_l rfl rfl rfl rfl (rd_fieldAddr rfl) ?_
      refine ws_l rfl rfl rfl rfl (rd_load rfl) ?_
      refine ws_buildSlice rfl rfl rfl rfl ?_
      intro b28 hb28
      refine ws_append rfl rfl rfl rfl rfl hown (by simp [idC_size]) (idC_one _) (by simp only [maxLen]; omega) (by omega) (fun _ _ _ h => by first | (cases h; done) | skip) ?_
      intro v5' ν5' hown5'
      refine ws_l rfl rfl rfl rfl (rd_assign rfl) ?_
      refine ws_nil ?_
      refine qe_then ?_
      refine wc_drawn mixedT _ (fun _ h => h) [(0, .r), (1, .r), (2, .r), (3, .r), (4, .r), (5, .r), (6, .r), (7, .x true), (8, .x true), (9, .x true)] (by kernel_rfl) ?_
      refine ws_r rfl rfl rfl rfl (rd_move rfl) ?_
      refine ws_r rfl rfl rfl rfl (rd_move rfl) ?_
      refine ws_r rfl rfl rfl rfl (rd_nil rfl) ?_
      refine ws_r rfl rfl rfl rfl (rd_fieldAddr rfl) ?_
      refine ws_r rfl rfl rfl rfl (rd_load rfl) ?_
      refine ws_r rfl rfl rfl rfl (rd_load rfl) ?_
      refine ws_r rfl rfl rfl rfl (rd_max rfl rfl) ?_
      refine ws_late rfl ?_
      refine ws_l rfl rfl rfl rfl (rd_nil rfl) ?_
      refine ws_l rfl rfl rfl rfl (rd_fieldAddr rfl) ?_
      refine ws_store rfl rfl rfl rfl (by first | exact .inl (by assumption) | exact .inr (by simp)) (fun _ h _ => by first | (cases h; done) | exact List.mem_cons_of_mem _ h | exact List.mem_cons_of_mem _ (List.mem_cons_of_mem _ h) | (simp at h ⊢; simp [h])) ?_
      refine ws_nil ?_
      refine qe_block ?_
      refine qe_then ?_
      refine wc_plain [(0, .x true), (1, .x true)] (by kernel_rfl) ?_
      refine ws_l rfl rfl rfl rfl (rd_arith (((j + 1 : Nat) : Int)) rfl rfl rfl (by rw [wrap_i64 _ (by omega) (by omega)]; omega)) ?_
      refine ws_l rfl rfl rfl rfl (rd_move rfl) ?_
      refine ws_nil ?_
      exact qe_loop fun ac2 w2 hs2 => ⟨_, by omega, j + 1, es2, _, (if now > cut1 then now else cut1), v5', ν5', rfl, (by omega), (hL2), (by rw [hLe, take_at hx, List.map_append, List.filter_filter]; congr 1; funext q; simp [List.contains_eq_mem, not_or, Bool.and_comm, decide_not]), (by rw [hc1]; by_cases h1 : j = 0 <;> by_cases h2 : cut < now <;> simp [h1, h2]), (by rw [take_at hx, List.map_append]; simpa [rowL, List.flatMap_append] using hown5'), st_sub hs2 _ rfl⟩
    · intro h16
      refine ws_nil ?_
      refine qe_then ?_
      refine wc_seq ?_
      refine wc_false rfl ?_
      refine wc_exit ?_
      refine qe_then_exit ?_
      refine qe_then_exit ?_
      refine qe_block_exit ?_
      refine qe_then ?_
      refine wc_keep [(5, _)] rfl ?_
      refine wc_seq ?_
      refine wc_plain [(0, .x true), (1, .x true)] (by kernel_rfl) ?_
      refine ws_l rfl rfl rfl rfl (rd_move rfl) ?_
      refine ws_l rfl rfl rfl rfl (rd_assign rfl) ?_
      refine ws_nil ?_
      refine qe_then ?_
      refine wc_ret ?_
      refine qe_body _ (.inl rfl) (res1 rfl (RV.tmp rfl)) ?_
      exact ret_end fun w hp hn ho => ⟨_, ν5, gone, es1, _, cut1, rfl, by rw [List.take_of_length_le (by omega)] at hown; simpa [show j = gone.length by omega] using hown, hp.mono (fun _ h => List.mem_append_left _ h), hp.mono (by simp), hL1, by rw [hLe, List.take_of_length_le (by omega)], by rw [hc1, show j = gone.length by omega]; simp, by simpa [forgetB, h9] using hperm, hpw⟩
  · intro h9
    refine ws_l rfl rfl rfl rfl (rd_not rfl) ?_
    refine ws_nil ?_
    refine qe_then ?_
    refine wc_true rfl ?_
    refine wc_seq ?_
    refine wc_plain [(0, .x true)] (by kernel_rfl) ?_
    refine ws_l rfl rfl rfl rfl (rd_assign rfl) ?_
    refine ws_nil ?_
    refine qe_then ?_
    refine wc_ret ?_
    refine qe_then_ret ?_
    refine qe_body _ (.inl rfl) (res1 rfl (RV.tmp rfl)) ?_
    exact ret_end fun w hp hn ho => ⟨_, [], [], es, L, cut, rfl, OwnR.nil _ _ _, HpOK.nil w, hp.mono (by simp), hL, (List.filter_eq_self.2 (by simp)).symm, by simp, by simp [forgetB, h9], List.Pairwise.nil⟩
set_option maxRecDepth 100000 in
set_option maxHeartbeats 1000000 in
theorem forget_ref (v : Value) (ν : Heap) (rows : List Ent) (hown : OwnR 0 24 36 v ν rows.length (rows.flatMap entL)) (hlen : rows.length < 1048576) (cut now : Int) (w : World) (hν : HpOK ν w) (hnd : (ν.map Prod.fst).Nodup) : Ret Try.prog 43 [v, I cut, I now] w [] (fun u w' => ∃ (v9 : Value) (ν9 : Heap) (v10 : Value) (ν10 : Heap), u = .tuple #[v9, I (if rows.filter (fun x => forgetB x now) = [] then cut else if cut < now then now else cut), v10] ∧ OwnR w.heap.size 24 36 v9 ν9 (rows.filter (fun x => !forgetB x now)).length ((rows.filter (fun x => !forgetB x now)).flatMap entL) ∧ HpOK ν9 w' ∧ OwnR w.heap.size 22 32 v10 ν10 (rows.filter (fun x => forgetB x now)).length (rowL ((rows.filter (fun x => forgetB x now)).map Ent.id)) ∧ HpOK ν10 w' ∧ ((ν9 ++ ν10).map Prod.fst).Nodup) := by
  refine enter (n := 66) (args := [v, I cut, I now]) [] ν Try.func43 rfl rfl rfl hν hnd ?_
  refine wc_seq ?_
  refine wc_plain [(0, .x true), (1, .x true), (2, .x true)] (by kernel_rfl) ?_
  refine ws_l rfl rfl rfl rfl (rd_assign rfl) ?_
  refine ws_l rfl rfl rfl rfl (rd_assign rfl) ?_
  refine ws_l rfl rfl rfl rfl (rd_assign rfl) ?_
  refine ws_nil ?_
  refine qe_then ?_
  refine wc_seq ?_
  refine wc_plain [(0, .x true)] (by kernel_rfl) ?_
  refine ws_l rfl rfl rfl rfl (rd_assign rfl) ?_
  refine ws_nil ?_
  refine qe_then ?_
  refine wc_seq ?_
  refine wc_plain [(0, .x true)] (by kernel_rfl) ?_
  refine ws_l rfl rfl rfl rfl (rd_assign rfl) ?_
  refine ws_nil ?_
  refine qe_then ?_
  refine wc_seq ?_
  refine wc_seq ?_
  refine wc_plain [(0, .x true)] (by kernel_rfl) ?_
  refine ws_l rfl rfl rfl rfl (rd_assign rfl) ?_
  refine ws_nil ?_
  refine qe_then ?_
  refine wc_block ?_
  refine wc_loop (fun mz ac w1 => ∃ (j : Nat) (c1 : Int) (v9 : Value) (ν9 : Heap) (v10 : Value) (ν10 : Heap), mz = rows.length - j ∧ (j ≤ rows.length) ∧ (c1 = (if (rows.take j).filter (fun x => forgetB x now) = [] then cut else if cut < now then now else cut)) ∧ (OwnR w.heap.size 24 36 v9 ν9 ((rows.take j).filter (fun x => !forgetB x now)).length (((rows.take j).filter (fun x => !forgetB x now)).flatMap entL)) ∧ (OwnR w.heap.size 22 32 v10 ν10 ((rows.take j).filter (fun x => forgetB x now)).length (rowL (((rows.take j).filter (fun x => forgetB x now)).map Ent.id))) ∧ St 66 w [] [(0, v), (1, I c1), (2, I now), (9, v9), (10, v10), (11, I j)] (ν9 ++ (ν10 ++ ν)) ac w1) _ (fun ac w1 hs => ⟨0, cut, .slice none 0 0, [], .slice none 0 0, [], rfl, (by omega), (by simp), (OwnR.nil _ _ _), (OwnR.nil _ _ _), st_sub hs _ rfl⟩) ?_
  rintro _ ac1 wl1 ⟨j, c1, v9, ν9, v10, ν10, rfl, hj, hc1, hown9, hown10, hs1⟩
  refine wc_at hs1 ?_
  refine wc_seq ?_
  refine wc_seq ?_
  refine wc_plain [(0, .x true), (1, .x true), (2, .x true), (3, .x true)] (by kernel_rfl) ?_
  refine ws_l rfl rfl rfl rfl (rd_move rfl) ?_
  refine ws_l rfl rfl rfl rfl (rd_move rfl) ?_
  refine ws_l rfl rfl rfl rfl (rd_lenO hown rfl Try.underlying36) ?_
  refine ws_lcmp rfl rfl rfl (rfl) (rfl) (rfl) ?_ ?_
  · intro h15
    refine ws_nil ?_
    refine qe_then ?_
    refine wc_true rfl ?_
    refine wc_skip ?_
    refine qe_then ?_
    refine wc_seq ?_
    refine wc_block ?_
    refine wc_seq ?_
    refine wc_plain [(0, .x true), (1, .x true), (2, .x true), (3, .x true), (4, .x true), (5, .x true), (6, .x true), (7, .x true), (8, .x true), (9, .x true), (10, .x true), (11, .x true), (12, .x true), (13, .x true), (14, .x true), (15, .x true), (16, .x true), (17, .x true), (18, .x true), (19, .x true), (20, .x true), (21, .x true), (22, .x true), (23, .x true), (24, .x true), (25, .x true), (26, .x true)] (by kernel_rfl) ?_
    refine ws_l rfl rfl rfl rfl (rd_move rfl) ?_
    refine ws_callb (minuteB _) rfl rfl rfl rfl rfl (En.go) (fun w hp hn ho => minute_ref _ w) ?_ ?_
    · intro h19
      have hb19 := minuteB_bounds h19
      refine ws_l rfl rfl rfl rfl (rd_move rfl) ?_
      refine ws_l rfl rfl rfl rfl (rd_move rfl) ?_
      refine ws_l rfl rfl rfl rfl (rd_move rfl) ?_
      obtain ⟨gr, capr, curr, rfl, rfl, hgr, hcapr, hcurr⟩ := OwnR.opened hown (by omega)
      obtain ⟨x, hx⟩ := at_ex (l := rows) (j := j) (by omega)
      have atx := at_row hcurr hx
      refine ws_l rfl rfl rfl rfl (rd_ix rfl rfl Try.underlying36 Try.sizeOf24 (by omega)) ?_
      refine ws_l rfl rfl rfl rfl (rd_fieldAddr rfl) ?_
      refine ws_l rfl rfl rfl rfl (rd_load rfl) ?_
      refine ws_lcmp rfl rfl rfl (rfl) (rfl) (rfl) ?_ ?_
      · intro h26
        refine ws_l rfl rfl rfl rfl (rd_pick_t rfl rfl) ?_
        refine ws_l rfl rfl rfl rfl (rd_move rfl) ?_
        refine ws_l rfl rfl rfl rfl (rd_move rfl) ?_
        refine ws_l rfl rfl rfl rfl (rd_move rfl) ?_
        refine ws_l rfl rfl rfl rfl (rd_ix rfl rfl Try.underlying36 Try.sizeOf24 (by omega)) ?_
        refine ws_l rfl rfl rfl rfl (rd_fieldAddr rfl) ?_
        refine ws_lb _ rfl rfl rfl rfl (rd_load rfl) ?_ ?_
        · intro h33
          refine ws_l rfl rfl rfl rfl (rd_not rfl) ?_
          refine ws_l rfl rfl rfl rfl (rd_pick_t rfl rfl) ?_
          refine ws_l rfl rfl rfl rfl (rd_move rfl) ?_
          refine ws_xskip rfl rfl rfl rfl ?_
          refine ws_xskip rfl rfl rfl rfl ?_
          refine ws_xskip rfl rfl rfl rfl ?_
          refine ws_xskip rfl rfl rfl rfl ?_
          refine ws_xskip rfl rfl rfl rfl ?_
          refine ws_xskip rfl rfl rfl rfl ?_
          refine ws_xskip rfl rfl rfl rfl ?_
          refine ws_l rfl rfl rfl rfl (rd_pick_f rfl rfl) ?_
          refine ws_nil ?_
          refine qe_then ?_
          refine wc_false rfl ?_
          refine wc_plain [(0, .x true), (1, .x true), (2, .x true), (3, .x true), (4, .x true), (5, .x true), (6, .x true), (7, .x true)] (by kernel_rfl) ?_
          refine ws_l rfl rfl rfl rfl (rd_move rfl) ?_
          refine ws_l rfl rfl rfl rfl (rd_move rfl) ?_
          refine ws_l rfl rfl rfl rfl (rd_move rfl) ?_
          refine ws_l rfl rfl rfl rfl (rd_ix rfl rfl Try.underlying36 Try.sizeOf24 (by omega)) ?_
          refine ws_l rfl rfl rfl rfl (rd_load rfl) ?_
          refine ws_buildSlice rfl rfl rfl rfl ?_
          intro b61 hb61
          have hfx : forgetB x now = false := by (try simp only [cmpP, ne_eq, Decidable.not_not] at *); simp [forgetB, goneB, *]
          have hfl : ((rows.take j).filter (fun x => !forgetB x now)).length ≤ j := Nat.le_trans (List.length_filter_le _ _) (by simp; omega)
          refine ws_append rfl rfl rfl rfl rfl hown9 (by simp [entC_size]) (entC_one _) (by simp only [maxLen]; omega) (by omega) (fun _ _ _ h => by first | (cases h; done) | skip) ?_
          intro v9' ν9' hown9'
          refine ws_l rfl rfl rfl rfl (rd_assign rfl) ?_
          refine ws_nil ?_
          refine qe_block ?_
          refine qe_then ?_
          refine wc_plain [(0, .x true), (1, .x true), (2, .x true)] (by kernel_rfl) ?_
          refine ws_l rfl rfl rfl rfl (rd_move rfl) ?_
          refine ws_l rfl rfl rfl rfl (rd_arith (((j + 1 : Nat) : Int)) rfl rfl rfl (by rw [wrap_i64 _ (by omega) (by omega)]; omega)) ?_
          refine ws_l rfl rfl rfl rfl (rd_assign rfl) ?_
          refine ws_nil ?_
          exact qe_loop fun ac2 w2 hs2 => ⟨_, by omega, j + 1, c1, v9', ν9', v10, ν10, rfl, (by omega), (by rw [take_at hx, List.filter_append, hc1]; simp [hfx]), (by rw [take_at hx, List.filter_append]; simpa [hfx, List.flatMap_append] using hown9'), (by rw [take_at hx, List.filter_append]; simpa [hfx] using hown10), st_sub hs2 _ rfl⟩
        · intro h33
          refine ws_l rfl rfl rfl rfl (rd_not rfl) ?_
          refine ws_l rfl rfl rfl rfl (rd_pick_t rfl rfl) ?_
          refine ws_l rfl rfl rfl rfl (rd_move rfl) ?_
          refine ws_l rfl rfl rfl rfl (rd_move rfl) ?_
          refine ws_l rfl rfl rfl rfl (rd_move rfl) ?_
          refine ws_l rfl rfl rfl rfl (rd_ix rfl rfl Try.underlying36 Try.sizeOf24 (by omega)) ?_
          refine ws_l rfl rfl rfl rfl (rd_fieldAddr rfl) ?_
          refine ws_l rfl rfl rfl rfl (rd_load rfl) ?_
          refine ws_l rfl rfl rfl rfl (rd_move rfl) ?_
          refine ws_callb (oldB _ _) rfl rfl rfl rfl rfl (En.go) (fun w hp hn ho => old_ref _ _ w (by omega) (by omega)) ?_ ?_
          · intro h43
            refine ws_l rfl rfl rfl rfl (rd_pick_t rfl rfl) ?_
            refine ws_nil ?_
            refine qe_then ?_
            refine wc_true rfl ?_
            refine wc_seq ?_
            refine wc_plain [(0, .x true), (1, .x true), (2, .x true), (3, .x true), (4, .x true), (5, .x true), (6, .x true), (7, .x true), (8, .x true)] (by kernel_rfl) ?_
            refine ws_l rfl rfl rfl rfl (rd_move rfl) ?_
            refine ws_l rfl rfl rfl rfl (rd_move rfl) ?_
            refine ws_l rfl rfl rfl rfl (rd_move rfl) ?_
            refine ws_l rfl rfl rfl rfl (rd_ix rfl rfl Try.underlying36 Try.sizeOf24 (by omega)) ?_
            refine ws_l rfl rfl rfl rfl (rd_fieldAddr rfl) ?_
            refine ws_l rfl rfl rfl rfl (rd_load rfl) ?_
            refine ws_buildSlice rfl rfl rfl rfl ?_
            intro b51 hb51
            have hfx : forgetB x now = true := by simp [forgetB, goneB, *]
            have hfl : ((rows.take j).filter (fun x => forgetB x now)).length ≤ j := Nat.le_trans (List.length_filter_le _ _) (by simp; omega)
            refine ws_append rfl rfl rfl rfl rfl hown10 (by simp [idC_size]) (idC_one _) (by simp only [maxLen]; omega) (by omega) (fun _ _ _ h => by first | (cases h; done) | skip) ?_
            intro v10' ν10' hown10'
            refine ws_l rfl rfl rfl rfl (rd_assign rfl) ?_
            refine ws_nil ?_
            refine qe_then ?_
            refine wc_plain [(0, .x true), (1, .x true), (2, .x true), (3, .x true)] (by kernel_rfl) ?_
            refine ws_l rfl rfl rfl rfl (rd_move rfl) ?_
            refine ws_l rfl rfl rfl rfl (rd_move rfl) ?_
            refine ws_l rfl rfl rfl rfl (rd_max rfl rfl) ?_
            refine ws_l rfl rfl rfl rfl (rd_assign rfl) ?_
            refine ws_nil ?_
            refine qe_block ?_
            refine qe_then ?_
            refine wc_plain [(0, .x true), (1, .x true), (2, .x true)] (by kernel_rfl) ?_
            refine ws_l rfl rfl rfl rfl (rd_move rfl) ?_
            refine ws_l rfl rfl rfl rfl (rd_arith (((j + 1 : Nat) : Int)) rfl rfl rfl (by rw [wrap_i64 _ (by omega) (by omega)]; omega)) ?_
            refine ws_l rfl rfl rfl rfl (rd_assign rfl) ?_
            refine ws_nil ?_
            exact qe_loop fun ac2 w2 hs2 => ⟨_, by omega, j + 1, (if now > c1 then now else c1), v9, ν9, v10', ν10', rfl, (by omega), (by rw [take_at hx, List.filter_append, hc1]; generalize (rows.take j).filter (fun x => forgetB x now) = q; have e1 : [x].filter (fun x => forgetB x now) = [x] := (by simp [hfx]); rw [e1]; cases q <;> by_cases h2 : cut < now <;> simp [h2]), (by rw [take_at hx, List.filter_append]; simpa [hfx] using hown9), (by rw [take_at hx, List.filter_append, List.map_append]; simpa [hfx, rowL, List.flatMap_append] using hown10'), st_sub hs2 _ rfl⟩
          · intro h43
            refine ws_l rfl rfl rfl rfl (rd_pick_t rfl rfl) ?_
            refine ws_nil ?_
            refine qe_then ?_
            refine wc_false rfl ?_
            refine wc_plain [(0, .x true), (1, .x true), (2, .x true), (3, .x true), (4, .x true), (5, .x true), (6, .x true), (7, .x true)] (by kernel_rfl) ?_
            refine ws_l rfl rfl rfl rfl (rd_move rfl) ?_
            refine ws_l rfl rfl rfl rfl (rd_move rfl) ?_
            refine ws_l rfl rfl rfl rfl (rd_move rfl) ?_
            refine ws_l rfl rfl rfl rfl (rd_ix rfl rfl Try.underlying36 Try.sizeOf24 (by omega)) ?_
            refine ws_l rfl rfl rfl rfl (rd_load rfl) ?_
            refine ws_buildSlice rfl rfl rfl rfl ?_
            intro b61 hb61
            have hfx : forgetB x now = false := by (try simp only [cmpP, ne_eq, Decidable.not_not] at *); simp [forgetB, goneB, *]
            have hfl : ((rows.take j).filter (fun x => !forgetB x now)).length ≤ j := Nat.le_trans (List.length_filter_le _ _) (by simp; omega)
            refine ws_append rfl rfl rfl rfl rfl hown9 (by simp [entC_size]) (entC_one _) (by simp only [maxLen]; omega) (by omega) (fun _ _ _ h => by first | (cases h; done) | skip) ?_
            intro v9' ν9' hown9'
            refine ws_l rfl rfl rfl rfl (rd_assign rfl) ?_
            refine ws_nil ?_
            refine qe_block ?_
            refine qe_then ?_
            refine wc_plain [(0, .x true), (1, .x true), (2, .x true)] (by kernel_rfl) ?_
            refine ws_l rfl rfl rfl rfl (rd_move rfl) ?_
            refine ws_l rfl rfl rfl rfl (rd_arith (((j + 1 : Nat) : Int)) rfl rfl rfl (by rw [wrap_i64 _ (by omega) (by omega)]; omega)) ?_
            refine ws_l rfl rfl rfl rfl (rd_assign rfl) ?_
            refine ws_nil ?_
            exact qe_loop fun ac2 w2 hs2 => ⟨_, by omega, j + 1, c1, v9', ν9', v10, ν10, rfl, (by omega), (by rw [take_at hx, List.filter_append, hc1]; simp [hfx]), (by rw [take_at hx, List.filter_append]; simpa [hfx, List.flatMap_append] using hown9'), (by rw [take_at hx, List.filter_append]; simpa [hfx] using hown10), st_sub hs2 _ rfl⟩
      · intro h26
        refine ws_l rfl rfl rfl rfl (rd_pick_t rfl rfl) ?_
        refine ws_l rfl rfl rfl rfl (rd_move rfl) ?_
        refine ws_xskip rfl rfl rfl rfl ?_
        refine ws_xskip rfl rfl rfl rfl ?_
        refine ws_xskip rfl rfl rfl rfl ?_
        refine ws_xskip rfl rfl rfl rfl ?_
        refine ws_xskip rfl rfl rfl rfl ?_
        refine ws_xskip rfl rfl rfl rfl ?_
        refine ws_l rfl rfl rfl rfl (rd_pick_f rfl rfl) ?_
        refine ws_l rfl rfl rfl rfl (rd_move rfl) ?_
        refine ws_xskip rfl rfl rfl rfl ?_
        refine ws_xskip rfl rfl rfl rfl ?_
        refine ws_xskip rfl rfl rfl rfl ?_
        refine ws_xskip rfl rfl rfl rfl ?_
        refine ws_xskip rfl rfl rfl rfl ?_
        refine ws_xskip rfl rfl rfl rfl ?_
        refine ws_xskip rfl rfl rfl rfl ?_
        refine ws_l rfl rfl rfl rfl (rd_pick_f rfl rfl) ?_
        refine ws_nil ?_
        refine qe_then ?_
        refine wc_false rfl ?_
        refine wc_plain [(0, .x true), (1, .x true), (2, .x true), (3, .x true), (4, .x true), (5, .x true), (6, .x true), (7, .x true)] (by kernel_rfl) ?_
        refine ws_l rfl rfl rfl rfl (rd_move rfl) ?_
        refine ws_l rfl rfl rfl rfl (rd_move rfl) ?_
        refine ws_l rfl rfl rfl rfl (rd_move rfl) ?_
        refine ws_l rfl rfl rfl rfl (rd_ix rfl rfl Try.underlying36 Try.sizeOf24 (by omega)) ?_
        refine ws_l rfl rfl rfl rfl (rd_load rfl) ?_
        refine ws_buildSlice rfl rfl rfl rfl ?_
        intro b61 hb61
        have hfx : forgetB x now = false := by (try simp only [cmpP, ne_eq, Decidable.not_not] at *); simp [forgetB, goneB, *]
        have hfl : ((rows.take j).filter (fun x => !forgetB x now)).length ≤ j := Nat.le_trans (List.length_filter_le _ _) (by simp; omega)
        refine ws_append rfl rfl rfl rfl rfl hown9 (by simp [entC_size]) (entC_one _) (by simp only [maxLen]; omega) (by omega) (fun _ _ _ h => by first | (cases h; done) | skip) ?_
        intro v9' ν9' hown9'
        refine ws_l rfl rfl rfl rfl (rd_assign rfl) ?_
        refine ws_nil ?_
        refine qe_block ?_
        refine qe_then ?_
        refine wc_plain [(0, .x true), (1, .x true), (2, .x true)] (by kernel_rfl) ?_
        refine ws_l rfl rfl rfl rfl (rd_move rfl) ?_
        refine ws_l rfl rfl rfl rfl (rd_arith (((j + 1 : Nat) : Int)) rfl rfl rfl (by rw [wrap_i64 _ (by omega) (by omega)]; omega)) ?_
        refine ws_l rfl rfl rfl rfl (rd_assign rfl) ?_
        refine ws_nil ?_
        exact qe_loop fun ac2 w2 hs2 => ⟨_, by omega, j + 1, c1, v9', ν9', v10, ν10, rfl, (by omega), (by rw [take_at hx, List.filter_append, hc1]; simp [hfx]), (by rw [take_at hx, List.filter_append]; simpa [hfx, List.flatMap_append] using hown9'), (by rw [take_at hx, List.filter_append]; simpa [hfx] using hown10), st_sub hs2 _ rfl⟩
    · intro h19
      refine ws_l rfl rfl rfl rfl (rd_move rfl) ?_
      refine ws_xskip rfl rfl rfl rfl ?_
      refine ws_xskip rfl rfl rfl rfl ?_
      refine ws_xskip rfl rfl rfl rfl ?_
      refine ws_xskip rfl rfl rfl rfl ?_
      refine ws_xskip rfl rfl rfl rfl ?_
      refine ws_xskip rfl rfl rfl rfl ?_
      refine ws_l rfl rfl rfl rfl (rd_pick_f rfl rfl) ?_
      refine ws_l rfl rfl rfl rfl (rd_move rfl) ?_
      refine ws_xskip rfl rfl rfl rfl ?_
      refine ws_xskip rfl rfl rfl rfl ?_
      refine ws_xskip rfl rfl rfl rfl ?_
      refine ws_xskip rfl rfl rfl rfl ?_
      refine ws_xskip rfl rfl rfl rfl ?_
      refine ws_xskip rfl rfl rfl rfl ?_
      refine ws_l rfl rfl rfl rfl (rd_pick_f rfl rfl) ?_
      refine ws_l rfl rfl rfl rfl (rd_move rfl) ?_
      refine ws_xskip rfl rfl rfl rfl ?_
      refine ws_xskip rfl rfl rfl rfl ?_
      refine ws_xskip rfl rfl rfl rfl ?_
      refine ws_xskip rfl rfl rfl rfl ?_
      refine ws_xskip rfl rfl rfl rfl ?_
      refine ws_xskip rfl rfl rfl rfl ?_
      refine ws_xskip rfl rfl rfl rfl ?_
      refine ws_l rfl rfl rfl rfl (rd_pick_f rfl rfl) ?_
      refine ws_nil ?_
      refine qe_then ?_
      refine wc_false rfl ?_
      refine wc_plain [(0, .x true), (1, .x true), (2, .x true), (3, .x true), (4, .x true), (5, .x true), (6, .x true), (7, .x true)] (by kernel_rfl) ?_
      refine ws_l rfl rfl rfl rfl (rd_move rfl) ?_
      refine ws_l rfl rfl rfl rfl (rd_move rfl) ?_
      refine ws_l rfl rfl rfl rfl (rd_move rfl) ?_
      obtain ⟨gr, capr, curr, rfl, rfl, hgr, hcapr, hcurr⟩ := OwnR.opened hown (by omega)
      obtain ⟨x, hx⟩ := at_ex (l := rows) (j := j) (by omega)
      have atx := at_row hcurr hx
      refine ws_l rfl rfl rfl rfl (rd_ix rfl rfl Try.underlying36 Try.sizeOf24 (by omega)) ?_
      refine ws_l rfl rfl rfl rfl (rd_load rfl) ?_
      refine ws_buildSlice rfl rfl rfl rfl ?_
      intro b61 hb61
      have hfx : forgetB x now = false := by (try simp only [cmpP, ne_eq, Decidable.not_not] at *); simp [forgetB, goneB, *]
      have hfl : ((rows.take j).filter (fun x => !forgetB x now)).length ≤ j := Nat.le_trans (List.length_filter_le _ _) (by simp; omega)
      refine ws_append rfl rfl rfl rfl rfl hown9 (by simp [entC_size]) (entC_one _) (by simp only [maxLen]; omega) (by omega) (fun _ _ _ h => by first | (cases h; done) | skip) ?_
      intro v9' ν9' hown9'
      refine ws_l rfl rfl rfl rfl (rd_assign rfl) ?_
      refine ws_nil ?_
      refine qe_block ?_
      refine qe_then ?_
      refine wc_plain [(0, .x true), (1, .x true), (2, .x true)] (by kernel_rfl) ?_
      refine ws_l rfl rfl rfl rfl (rd_move rfl) ?_
      refine ws_l rfl rfl rfl rfl (rd_arith (((j + 1 : Nat) : Int)) rfl rfl rfl (by rw [wrap_i64 _ (by omega) (by omega)]; omega)) ?_
      refine ws_l rfl rfl rfl rfl (rd_assign rfl) ?_
      refine ws_nil ?_
      exact qe_loop fun ac2 w2 hs2 => ⟨_, by omega, j + 1, c1, v9', ν9', v10, ν10, rfl, (by omega), (by rw [take_at hx, List.filter_append, hc1]; simp [hfx]), (by rw [take_at hx, List.filter_append]; simpa [hfx, List.flatMap_append] using hown9'), (by rw [take_at hx, List.filter_append]; simpa [hfx] using hown10), st_sub hs2 _ rfl⟩
  · intro h15
    refine ws_nil ?_
    refine qe_then ?_
    refine wc_false rfl ?_
    refine wc_exit ?_
    refine qe_then_exit ?_
    refine qe_then_exit ?_
    refine qe_block_exit ?_
    refine qe_then ?_
    refine wc_keep [(1, _), (9, _), (10, _)] rfl ?_
    refine wc_seq ?_
    refine wc_plain [(0, .x true), (1, .x true), (2, .x true), (3, .x true), (4, .x true), (5, .x true)] (by kernel_rfl) ?_
    refine ws_l rfl rfl rfl rfl (rd_move rfl) ?_
    refine ws_l rfl rfl rfl rfl (rd_move rfl) ?_
    refine ws_l rfl rfl rfl rfl (rd_move rfl) ?_
    refine ws_l rfl rfl rfl rfl (rd_assign rfl) ?_
    refine ws_l rfl rfl rfl rfl (rd_assign rfl) ?_
    refine ws_l rfl rfl rfl rfl (rd_assign rfl) ?_
    refine ws_nil ?_
    refine qe_then ?_
    refine wc_keep [(6, _), (7, _), (8, _)] rfl ?_
    refine wc_ret ?_
    refine qe_body _ (.inl rfl) (res3 rfl (RV.tmp rfl) (RV.tmp rfl) (RV.tmp rfl)) ?_
    have hjl : rows.take j = rows := List.take_of_length_le (by omega)
    rw [hjl] at hown9 hown10 hc1
    exact ret_end fun w hp hn ho => ⟨v9, ν9, v10, ν10, by rw [hc1], hown9, hp.mono (fun _ h => List.mem_append_left _ h), hown10, hp.mono (fun _ h => List.mem_append_right _ (List.mem_append_left _ h)), hn.sublist (List.Sublist.map _ ((List.Sublist.refl _).append (List.sublist_append_left _ _)))⟩

end Go.Proofs.Ytegjmmjjchpeoaa
