/- Walks: put, Add. No conditions. -/
import Derived.Test.YtaagmgpfpaanlaaIdx
import Derived.Test.YtaagmgpfpaanlaaW2
namespace Go.Proofs.Ytaagmgpfpaanlaa
open Go Go.RowKit Go.Sx
set_option linter.unusedSimpArgs false
set_option linter.unusedVariables false

set_option maxRecDepth 100000 in
set_option maxHeartbeats 1000000 in
theorem put_ret (p m k : Nat) (es ws : Array MapEntry) (c d : Nat) (L : RMap) (W : WMap) (own : List RR) (ν : Heap) (hL : MapIs idK hrK es c L) (hW : MapIs idK wvK ws d W) (hok : SetOK ν L W own) (hlen : own.length < 8192) (r : RR) (g : GV) (hg : GOK ν g r.grp) (hf : mlook L r.id = none) (w : World) (hη : HpOK (setC p m k es c ws d ν) w) (hnd : ((setC p m k es c ws d ν).map Prod.fst).Nodup) : Ret Try.prog 49 [ptr p, .agg (rowC r g)] w [m, k] (fun _ w' => SetTo m k ν (own ++ [r]) w w') := by
  obtain ⟨gw, hgw, hga⟩ := hok.wait hW.keysNd r.sup
  have hwl := waits_len own r.sup
  refine enter (n := 34) (args := [ptr p, .agg (rowC r g)]) [m, k] (setC p m k es c ws d ν) Try.func49 rfl rfl rfl hη hnd ?_
  refine wc_seq ?_
  refine wc_plain [(0, .x true)] (by kernel_rfl) ?_
  refine ws_box rfl rfl rfl rfl ?_
  intro b3 hb3
  refine ws_nil ?_
  refine qe_then ?_
  refine wc_seq ?_
  refine wc_drawn mixedT _ (fun _ h => h) [(0, .r), (1, .r), (2, .r), (3, .r), (4, .r), (5, .r), (6, .r), (7, .x false), (8, .x true)] (by kernel_rfl) ?_
  refine ws_r rfl rfl rfl rfl (rd_move rfl) ?_
  refine ws_r rfl rfl rfl rfl (rd_nil rfl) ?_
  refine ws_r rfl rfl rfl rfl (rd_fieldAddr rfl) ?_
  refine ws_r rfl rfl rfl rfl (rd_load rfl) ?_
  refine ws_r rfl rfl rfl rfl (rd_fieldAddr rfl) ?_
  refine ws_r rfl rfl rfl rfl (rd_load rfl) ?_
  refine ws_r rfl rfl rfl rfl (rd_load rfl) ?_
  refine ws_call rfl rfl rfl rfl rfl (En.go) (fun w hp hn ho => copied_ret r g ν hg w (hp.mono (by intro q hq; simp [hq])) (setC_nd hnd)) (fun _ h => by cases h) (fun hh q h => by first | (cases h; done) | exact hh q h) ?_
  rintro v11 wa wb hpo hon hon2 hp1 ⟨g1, ν1, rfl, hown1, hν1⟩
  refine ⟨ν1, hν1, hown1.nd, fun b hb => .inl (hown1.far b hb), ?_⟩
  replace hown1 := hown1.mono hon.size
  refine ws_late rfl ?_
  refine ws_update (ek := idK) (en := hrK) (a := r.id) (b := (⟨r, g1⟩ : HR)) Try.underlying77 hL rfl rfl rfl rfl rfl (.inr (by simp)) ?_
  intro es1 c1 hL1
  refine ws_nil ?_
  refine qe_then ?_
  refine wc_keep [(0, _), (3, _)] rfl ?_
  refine wc_seq ?_
  refine wc_plain [(0, .x true), (1, .x true), (2, .x true), (3, .x true)] (by kernel_rfl) ?_
  refine ws_l rfl rfl rfl rfl (rd_fieldAddr rfl) ?_
  refine ws_l rfl rfl rfl rfl (rd_load rfl) ?_
  refine ws_l rfl rfl rfl rfl (rd_build rfl) ?_
  refine ws_lp _ rfl rfl rfl rfl (rd_neid rfl rfl Try.underlying38 (by kernel_rfl)) ?_ ?_
  · intro h15
    refine ws_nil ?_
    refine qe_then ?_
    refine wc_true rfl ?_
    refine wc_drawnO mixedT _ (fun _ h => h) (.r 0 (.r 1 (.r 2 (.r 3 (.r 4 (.r 5 (.r 6 (.r 7 (.r 8 (.r 9 (.r 10 (.r 11 (.r 12 (.r 14 (.r 15 (.b 13 16 (.seq [(16, .x false), (17, .x false), (18, .x true)]) (.seq [(13, .x false), (17, .x false), (18, .x true)]))))))))))))))))) (by kernel_rfl) ?_
    refine od_r ?_
    refine ws_r rfl rfl rfl rfl (rd_move rfl) ?_
    refine od_go ?_
    refine od_r ?_
    refine ws_r rfl rfl rfl rfl (rd_nil rfl) ?_
    refine od_go ?_
    refine od_r ?_
    refine ws_r rfl rfl rfl rfl (rd_fieldAddr rfl) ?_
    refine od_go ?_
    refine od_r ?_
    refine ws_r rfl rfl rfl rfl (rd_load rfl) ?_
    refine od_go ?_
    refine od_r ?_
    refine ws_r rfl rfl rfl rfl (rd_fieldAddr rfl) ?_
    refine od_go ?_
    refine od_r ?_
    refine ws_r rfl rfl rfl rfl (rd_load rfl) ?_
    refine od_go ?_
    refine od_r ?_
    refine ws_r rfl rfl rfl rfl (rd_move rfl) ?_
    refine od_go ?_
    refine od_r ?_
    refine ws_r rfl rfl rfl rfl (rd_nil rfl) ?_
    refine od_go ?_
    refine od_r ?_
    refine ws_r rfl rfl rfl rfl (rd_fieldAddr rfl) ?_
    refine od_go ?_
    refine od_r ?_
    refine ws_r rfl rfl rfl rfl (rd_load rfl) ?_
    refine od_go ?_
    refine od_r ?_
    refine ws_r rfl rfl rfl rfl (rd_fieldAddr rfl) ?_
    refine od_go ?_
    refine od_r ?_
    refine ws_r rfl rfl rfl rfl (rd_load rfl) ?_
    refine od_go ?_
    refine od_r ?_
    refine ws_r rfl rfl rfl rfl (rd_wait hW hga rfl rfl) ?_
    refine od_go ?_
    refine od_r ?_
    refine ws_r rfl rfl rfl rfl (rd_fieldAddr rfl) ?_
    refine od_go ?_
    refine od_r ?_
    refine ws_r rfl rfl rfl rfl (rd_load rfl) ?_
    refine od_go ?_
    refine od_b ?_ ?_
    ·
      refine ws_call rfl rfl rfl rfl rfl (En.go) (fun w hp hn ho => idclone_ret gw.v ν _ _ hgw (by omega) w (hp.mono (by intro q hq; simp [hq])) (setC_nd hnd)) (fun _ h => by cases h) (fun hh q h => by first | (cases h; done) | exact hh q h) ?_
      rintro v29 wa wb hpo hon hon2 hp1 ⟨g2, ν2, rfl, hown2, hν2⟩
      refine ⟨ν2, hν2, hown2.nd, fun b hb => .inl (hown2.far b hb), ?_⟩
      replace hown2 := hown2.mono hon.size
      refine od_go ?_
      refine od_seq ?_
      refine ws_buildSlice rfl rfl rfl rfl ?_
      intro b32 hb32
      refine ws_append rfl rfl rfl rfl rfl hown2 (by simp [idC_size]) (idC_one _) (by simp only [maxLen]; omega) (by omega) (fun _ _ _ h => by first | (cases h; done) | (simp only [List.mem_append, List.mem_cons] at h ⊢; grind) | skip) ?_
      intro v3' ν3' hown3'
      obtain ⟨g3, rfl, -⟩ := OwnR.gv hown3'
      refine ws_late rfl ?_
      refine ws_update (ek := idK) (en := wvK) (a := r.sup) (b := (⟨g3, waits own r.sup ++ [r.id]⟩ : WV)) Try.underlying78 hW rfl rfl rfl rfl rfl (.inr (by simp)) ?_
      intro es2 c2 hL2
      refine ws_nil ?_
      refine qe_body _ (.inr rfl) (res0 rfl) ?_
      exact ret_end fun w hp hn ho => ⟨es1, c1, es2, c2, _, _, ν1 ++ ν3', (hp.mono SubH.mem), SubH.nd hn, fun b hb => by rw [List.map_append, List.mem_append] at hb; exact hb.elim (hown1.far b) (hown3'.far b), hL1, hL2, (hok.mono (fun q hq => List.mem_append_right _ hq)).putW hf (hown1.src.mono (fun q hq => List.mem_append_left _ (List.mem_append_left _ hq))) h15 (by simpa [List.flatMap_append] using hown3'.src.mono (fun q hq => List.mem_append_left _ (List.mem_append_right _ hq)))⟩
    ·
      refine ws_buildSlice rfl rfl rfl rfl ?_
      intro b32 hb32
      refine od_go ?_
      refine od_seq ?_
      refine ws_call rfl rfl rfl rfl rfl (En.go) (fun w hp hn ho => idclone_ret gw.v ν _ _ hgw (by omega) w (hp.mono (by intro q hq; simp [hq])) (setC_nd hnd)) (fun _ h => by cases h) (fun hh q h => by first | (cases h; done) | exact hh q h) ?_
      rintro v29 wa wb hpo hon hon2 hp1 ⟨g2, ν2, rfl, hown2, hν2⟩
      refine ⟨ν2, hν2, hown2.nd, fun b hb => .inl (hown2.far b hb), ?_⟩
      replace hown2 := hown2.mono hon.size
      refine ws_append rfl rfl rfl rfl rfl hown2 (by simp [idC_size]) (idC_one _) (by simp only [maxLen]; omega) (by omega) (fun _ _ _ h => by first | (cases h; done) | (simp only [List.mem_append, List.mem_cons] at h ⊢; grind) | skip) ?_
      intro v3' ν3' hown3'
      obtain ⟨g3, rfl, -⟩ := OwnR.gv hown3'
      refine ws_late rfl ?_
      refine ws_update (ek := idK) (en := wvK) (a := r.sup) (b := (⟨g3, waits own r.sup ++ [r.id]⟩ : WV)) Try.underlying78 hW rfl rfl rfl rfl rfl (.inr (by simp)) ?_
      intro es2 c2 hL2
      refine ws_nil ?_
      refine qe_body _ (.inr rfl) (res0 rfl) ?_
      exact ret_end fun w hp hn ho => ⟨es1, c1, es2, c2, _, _, ν1 ++ ν3', (hp.mono SubH.mem), SubH.nd hn, fun b hb => by rw [List.map_append, List.mem_append] at hb; exact hb.elim (hown1.far b) (hown3'.far b), hL1, hL2, (hok.mono (fun q hq => List.mem_append_right _ hq)).putW hf (hown1.src.mono (fun q hq => List.mem_append_left _ (List.mem_append_left _ hq))) h15 (by simpa [List.flatMap_append] using hown3'.src.mono (fun q hq => List.mem_append_left _ (List.mem_append_right _ hq)))⟩
  · intro h15
    refine ws_nil ?_
    refine qe_then ?_
    refine wc_false rfl ?_
    refine wc_skip ?_
    refine qe_body _ (.inr rfl) (res0 rfl) ?_
    exact ret_end fun w hp hn ho => ⟨es1, c1, ws, d, _, _, ν1, (hp.mono SubH.mem), SubH.nd hn, hown1.far, hL1, hW, (hok.mono (fun q hq => List.mem_append_right _ hq)).put hf (hown1.src.mono (fun q hq => List.mem_append_left _ hq)) (by simpa using h15)⟩
set_option maxRecDepth 100000 in
set_option maxHeartbeats 1000000 in
theorem add_ret (p m k : Nat) (es ws : Array MapEntry) (c d : Nat) (L : RMap) (W : WMap) (own : List RR) (ν : Heap) (hL : MapIs idK hrK es c L) (hW : MapIs idK wvK ws d W) (hok : SetOK ν L W own) (hlen : own.length < 8192) (r : RR) (g : GV) (hg : GOK ν g r.grp) (w : World) (hη : HpOK (setC p m k es c ws d ν) w) (hnd : ((setC p m k es c ws d ν).map Prod.fst).Nodup) : Ret Try.prog 23 [ptr p, .agg (rowC r g)] w [m, k] (fun v w' => v = I (addE own r) ∧ SetTo m k ν (addO own r) w w') := by
  refine enter (n := 27) (args := [ptr p, .agg (rowC r g)]) [m, k] (setC p m k es c ws d ν) Try.func23 rfl rfl rfl hη hnd ?_
  refine wc_seq ?_
  refine wc_plain [(0, .x true), (1, .x true)] (by kernel_rfl) ?_
  refine ws_box rfl rfl rfl rfl ?_
  intro b3 hb3
  refine ws_l rfl rfl rfl rfl (rd_assign rfl) ?_
  refine ws_nil ?_
  refine qe_then ?_
  refine wc_seq ?_
  refine wc_block ?_
  refine wc_seq ?_
  refine wc_plain [(0, .x true), (1, .x true), (2, .x true)] (by kernel_rfl) ?_
  refine ws_l rfl rfl rfl rfl (rd_move rfl) ?_
  refine ws_l rfl rfl rfl rfl (rd_ptr_nil rfl rfl Try.underlying49 rfl) ?_
  refine ws_l rfl rfl rfl rfl (rd_assign rfl) ?_
  refine ws_nil ?_
  refine qe_then ?_
  refine wc_false rfl ?_
  refine wc_seq ?_
  refine wc_plain [(0, .x true), (1, .x true), (2, .x true), (3, .x true)] (by kernel_rfl) ?_
  refine ws_l rfl rfl rfl rfl (rd_load rfl) ?_
  refine ws_callb (decide _) rfl rfl rfl rfl rfl (En.go) (fun w hp hn ho => date_ret r g w) ?_ ?_
  · intro hdate
    have hdate := of_decide_eq_true hdate
    refine ws_l rfl rfl rfl rfl (rd_not rfl) ?_
    refine ws_l rfl rfl rfl rfl (rd_assign rfl) ?_
    refine ws_nil ?_
    refine qe_then ?_
    refine wc_keep [(0, _), (3, _), (4, _), (8, _)] rfl ?_
    refine wc_false rfl ?_
    refine wc_seq ?_
    refine wc_plain [(0, .x true), (1, .x true), (2, .x true), (3, .x true), (4, .x true)] (by kernel_rfl) ?_
    refine ws_l rfl rfl rfl rfl (rd_move rfl) ?_
    refine ws_l rfl rfl rfl rfl (rd_fieldAddr rfl) ?_
    refine ws_l rfl rfl rfl rfl (rd_load rfl) ?_
    refine ws_callb (decide _) rfl rfl rfl rfl rfl (En.go) (fun w hp hn ho => has_ret p m k es ws c d L W own ν hL hW hok hlen r.id w (hp.mono SubH.mem) hnd) ?_ ?_
    · intro hhas
      have hhas := of_decide_eq_true hhas
      refine ws_l rfl rfl rfl rfl (rd_assign rfl) ?_
      refine ws_nil ?_
      refine qe_then ?_
      refine wc_keep [(0, _), (3, _), (4, _), (12, _)] rfl ?_
      refine wc_true rfl ?_
      refine wc_seq ?_
      refine wc_plain [(0, .x true)] (by kernel_rfl) ?_
      refine ws_l rfl rfl rfl rfl (rd_assign rfl) ?_
      refine ws_nil ?_
      refine qe_then ?_
      refine wc_ret ?_
      refine qe_block_ret ?_
      refine qe_then_ret ?_
      refine qe_body _ (.inl rfl) (res1 rfl (RV.tmp rfl)) ?_
      exact ret_end fun w hp hn ho => ⟨by simp [addE, *], es, c, ws, d, L, W, [], (hp.mono SubH.mem), SubH.nd hn, by simp, hL, hW, by rw [addO, if_neg (by simp [addE, *])]; simpa using hok⟩
    · intro hhas
      have hhas := of_decide_eq_false hhas
      have hf : mlook L r.id = none := by cases hl : mlook L r.id with | none => rfl | some y => exact absurd ⟨_, (hok.look hl).1, (hok.look hl).2.1⟩ hhas
      refine ws_l rfl rfl rfl rfl (rd_assign rfl) ?_
      refine ws_nil ?_
      refine qe_then ?_
      refine wc_keep [(0, _), (3, _), (4, _), (12, _)] rfl ?_
      refine wc_false rfl ?_
      refine wc_seq ?_
      refine wc_plain [(0, .x true), (1, .x true), (2, .x true), (3, .x true), (4, .x true), (5, .x true), (6, .x true)] (by kernel_rfl) ?_
      refine ws_l rfl rfl rfl rfl (rd_move rfl) ?_
      refine ws_l rfl rfl rfl rfl (rd_nil rfl) ?_
      refine ws_l rfl rfl rfl rfl (rd_fieldAddr rfl) ?_
      refine ws_l rfl rfl rfl rfl (rd_load rfl) ?_
      refine ws_l rfl rfl rfl rfl (rd_lenmap (ek := idK) (en := hrK) hL Try.underlying77 rfl) ?_
      refine ws_lcmp rfl rfl rfl (rfl) (rfl) (rfl) ?_ ?_
      · intro h23
        have hfull : 4096 ≤ own.length := by simp only [cmpP] at h23; rw [hok.len] at h23; omega
        refine ws_l rfl rfl rfl rfl (rd_assign rfl) ?_
        refine ws_nil ?_
        refine qe_then ?_
        refine wc_keep [(0, _), (3, _), (4, _), (17, _)] rfl ?_
        refine wc_true rfl ?_
        refine wc_seq ?_
        refine wc_plain [(0, .x true)] (by kernel_rfl) ?_
        refine ws_l rfl rfl rfl rfl (rd_assign rfl) ?_
        refine ws_nil ?_
        refine qe_then ?_
        refine wc_ret ?_
        refine qe_block_ret ?_
        refine qe_then_ret ?_
        refine qe_body _ (.inl rfl) (res1 rfl (RV.tmp rfl)) ?_
        exact ret_end fun w hp hn ho => ⟨by simp [addE, *], es, c, ws, d, L, W, [], (hp.mono SubH.mem), SubH.nd hn, by simp, hL, hW, by rw [addO, if_neg (by simp [addE, *])]; simpa using hok⟩
      · intro h23
        have hfull : ¬ 4096 ≤ own.length := by simp only [cmpP] at h23; rw [hok.len] at h23; omega
        have he : addE own r = 0 := by simp [addE, *]
        refine ws_l rfl rfl rfl rfl (rd_assign rfl) ?_
        refine ws_nil ?_
        refine qe_then ?_
        refine wc_keep [(0, _), (3, _), (4, _), (17, _)] rfl ?_
        refine wc_false rfl ?_
        refine wc_skip ?_
        refine qe_block ?_
        refine qe_then ?_
        refine wc_seq ?_
        refine wc_plain [(0, .x true), (1, .x true), (2, .x true)] (by kernel_rfl) ?_
        refine ws_l rfl rfl rfl rfl (rd_move rfl) ?_
        refine ws_l rfl rfl rfl rfl (rd_load rfl) ?_
        refine ws_call rfl rfl rfl rfl rfl (En.go) (fun w hp hn ho => put_ret p m k es ws c d L W own ν hL hW hok hlen r g hg hf w (hp.mono SubH.mem) hnd) (fun b hb => .inr hb) (fun hh q h => by first | (cases h; done) | exact hh q h) ?_
        rintro v26 wa wb hpo hon hon2 hp1 ⟨es1, c1, ws1, d1, L1, W1, ν1, hp2, hnd2, hfar2, hL1, hW1, hok1⟩
        refine ⟨(m, .map es1 c1) :: (k, .map ws1 d1) :: ν1, hp2, hnd2, fun b hb => by simp only [List.map_cons, List.mem_cons] at hb; rcases hb with rfl | rfl | hb; exact .inr (by simp); exact .inr (by simp); exact .inl (hfar2 b hb), ?_⟩
        simp only [List.cons_append]
        replace hfar2 : ∀ b ∈ ν1.map Prod.fst, _ ≤ b := fun b hb => Nat.le_trans hon.size (hfar2 b hb)
        refine ws_nil ?_
        refine qe_then ?_
        refine wc_keep [(4, _)] rfl ?_
        refine wc_seq ?_
        refine wc_plain [(0, .x true)] (by kernel_rfl) ?_
        refine ws_l rfl rfl rfl rfl (rd_assign rfl) ?_
        refine ws_nil ?_
        refine qe_then ?_
        refine wc_ret ?_
        refine qe_body _ (.inl rfl) (res1 rfl (RV.tmp rfl)) ?_
        exact ret_end fun w hp hn ho => ⟨by rw [he], es1, c1, ws1, d1, L1, W1, ν1, (hp.mono SubH.mem), SubH.nd hn, hfar2, hL1, hW1, by rw [addO, if_pos he]; exact hok1⟩
  · intro hdate
    have hdate := of_decide_eq_false hdate
    refine ws_l rfl rfl rfl rfl (rd_not rfl) ?_
    refine ws_l rfl rfl rfl rfl (rd_assign rfl) ?_
    refine ws_nil ?_
    refine qe_then ?_
    refine wc_keep [(0, _), (3, _), (4, _), (8, _)] rfl ?_
    refine wc_true rfl ?_
    refine wc_seq ?_
    refine wc_plain [(0, .x true)] (by kernel_rfl) ?_
    refine ws_l rfl rfl rfl rfl (rd_assign rfl) ?_
    refine ws_nil ?_
    refine qe_then ?_
    refine wc_ret ?_
    refine qe_block_ret ?_
    refine qe_then_ret ?_
    refine qe_body _ (.inl rfl) (res1 rfl (RV.tmp rfl)) ?_
    exact ret_end fun w hp hn ho => ⟨by simp [addE, *], es, c, ws, d, L, W, [], (hp.mono SubH.mem), SubH.nd hn, by simp, hL, hW, by rw [addO, if_neg (by simp [addE, *])]; simpa using hok⟩

end Go.Proofs.Ytaagmgpfpaanlaa
