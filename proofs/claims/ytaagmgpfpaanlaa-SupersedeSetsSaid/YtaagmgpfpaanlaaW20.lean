/- Walk: SupersedePaths. No conditions. -/
import Derived.Test.YtaagmgpfpaanlaaW19
import Derived.Test.YtaagmgpfpaanlaaW16
namespace Go.Proofs.Ytaagmgpfpaanlaa
open Go Go.RowKit Go.Sx
set_option linter.unusedSimpArgs false
set_option linter.unusedVariables false

set_option maxRecDepth 100000 in
set_option maxHeartbeats 4000000 in
theorem supersedePaths_ret (v : Value) (φ : Heap) (l : List RR) (hsrc : Src φ v 82 l.length (l.flatMap rrL)) (hcap : CapOK v l.length) (w : World) (hφ : HpOK φ w) (hnd : (φ.map Prod.fst).Nodup) : Ret Try.prog 8 [v] w [] (fun u _ => u = .bool true) := by
  refine enter (n := 131) (args := [v]) [] φ Try.func8 rfl rfl rfl hφ hnd ?_
  refine wc_seq ?_
  refine wc_plain [(0, .x true)] (by kernel_rfl) ?_
  refine ws_l rfl rfl rfl rfl (rd_assign rfl) ?_
  refine ws_nil ?_
  refine qe_then ?_
  refine wc_seq ?_
  refine wc_plain [(0, .x true), (1, .x true), (2, .x true), (3, .x true), (4, .x true), (5, .x true), (6, .x true)] (by kernel_rfl) ?_
  refine ws_l rfl rfl rfl rfl (rd_move rfl) ?_
  refine ws_call rfl rfl rfl rfl rfl (En.go) (fun w hp hn ho => rows_law v φ l hsrc hcap w (hp.mono SubH.mem) hnd) (fun _ h => by cases h) (fun hh q h => by first | (cases h; done) | exact hh q h) ?_
  rintro v15 wa wb hpo hon hon2 hp1 ⟨hs, v4, u10, ν4, νg, rfl, hrows, hrp, hrn, hrf, hrown, hrgs, hu10, hc10⟩
  refine ⟨ν4 ++ νg, hrp, hrn, fun b hb => .inl (hrf b hb), ?_⟩
  have hl24 : (l.take 24).length ≤ 24 := by rw [List.length_take]; omega
  have hsl : hs.length = (l.take 24).length := by rw [← hrows, List.length_map]
  replace hrown := hrown.mono hon.size
  rw [List.append_assoc]
  have hrsrc : Src (ν4 ++ (νg ++ φ)) v4 83 hs.length (hs.flatMap hrL) := hrown.src.mono (fun q hq => List.mem_append_left _ hq)
  have hrg : ∀ x ∈ hs, GOK (ν4 ++ (νg ++ φ)) x.g x.r.grp := fun x hx => (hrgs x hx).mono (fun q hq => List.mem_append_right _ (List.mem_append_left _ hq))
  refine ws_l rfl rfl rfl rfl (rd_move rfl) ?_
  refine ws_l rfl rfl rfl rfl (rd_extract rfl) ?_
  refine ws_l rfl rfl rfl rfl (rd_extract rfl) ?_
  refine ws_l rfl rfl rfl rfl (rd_assign rfl) ?_
  refine ws_l rfl rfl rfl rfl (rd_assign rfl) ?_
  refine ws_nil ?_
  refine qe_then ?_
  refine wc_keep [(2, _), (3, _)] rfl ?_
  refine wc_seq ?_
  refine wc_seq ?_
  refine wc_plain [(0, .x true), (1, .x true)] (by kernel_rfl) ?_
  refine ws_callp rfl rfl rfl rfl rfl (En.go) (fun w hp hn ho => known_ret w) ?_
  refine ws_l rfl rfl rfl rfl (rd_not rfl) ?_
  refine ws_nil ?_
  refine qe_then ?_
  refine wc_false rfl ?_
  refine wc_skip ?_
  refine qe_then ?_
  refine wc_seq ?_
  refine wc_plain [(0, .x true), (1, .x true), (2, .x true), (3, .x true), (4, .x true), (5, .x true), (6, .x true)] (by kernel_rfl) ?_
  refine ws_l rfl rfl rfl rfl (rd_move rfl) ?_
  refine ws_call rfl rfl rfl rfl rfl (En.go) (fun w hp hn ho => set_law v4 (ν4 ++ (νg ++ φ)) hs hrsrc (by omega) hrg w (hp.mono SubH.mem) (SubH.nd hn)) (fun _ h => by cases h) (fun hh q h => by first | (cases h; done) | exact hh q h) ?_
  rintro v22 wa wb hpo hon hon2 hp1 ⟨s0, okb, own0, rfl, hsn, hso⟩
  obtain ⟨p, m, k, es, c, ws, d, L, W, νs, rfl, hset, hsnd, hsfar, hL, hW, hok⟩ := hsn
  refine ⟨_, hset, hsnd, fun b hb => .inl (hsfar b hb), ?_⟩
  simp only [List.cons_append]
  have hpb := Nat.le_trans hon.size (hsfar p (by simp))
  have hmb := Nat.le_trans hon.size (hsfar m (by simp))
  have hkb := Nat.le_trans hon.size (hsfar k (by simp))
  have hsnf : ∀ b ∈ νs.map Prod.fst, _ ≤ b := fun b hb => Nat.le_trans hon.size (hsfar b (by simp only [List.map_cons, List.mem_cons]; exact .inr (.inr (.inr hb))))
  cases okb
  ·
    refine ws_l rfl rfl rfl rfl (rd_move rfl) ?_
    refine ws_l rfl rfl rfl rfl (rd_extract rfl) ?_
    refine ws_l rfl rfl rfl rfl (rd_extract rfl) ?_
    refine ws_l rfl rfl rfl rfl (rd_assign rfl) ?_
    refine ws_l rfl rfl rfl rfl (rd_assign rfl) ?_
    refine ws_nil ?_
    refine qe_then ?_
    refine wc_keep [(2, _), (3, _), (5, _), (6, _)] rfl ?_
    refine wc_seq ?_
    refine wc_seq ?_
    refine wc_plain [(0, .x true)] (by kernel_rfl) ?_
    refine ws_l rfl rfl rfl rfl (rd_assign rfl) ?_
    refine ws_nil ?_
    refine qe_then ?_
    refine wc_block ?_
    refine wc_loop (fun mz ac w1 => ∃ (i : Nat), mz = hs.length - i ∧ (i ≤ hs.length) ∧ St 131 w [] [(3, v4), (5, ptr p), (6, .bool false), (7, I i)] (setC p m k es c ws d (νs ++ (ν4 ++ (νg ++ φ)))) ac w1) _ (fun ac w1 hs => ⟨0, rfl, (by omega), st_sub hs _ rfl⟩) ?_
    rintro _ ac1 wl1 ⟨i, rfl, hi, hs1⟩
    refine wc_at hs1 ?_
    refine wc_seq ?_
    refine wc_seq ?_
    refine wc_plain [(0, .x true), (1, .x true), (2, .x true), (3, .x true), (4, .x true), (5, .x true), (6, .x true)] (by kernel_rfl) ?_
    refine ws_l rfl rfl rfl rfl (rd_move rfl) ?_
    refine ws_l rfl rfl rfl rfl (rd_move rfl) ?_
    refine ws_l rfl rfl rfl rfl (rd_lenS hrsrc rfl Try.underlying23) ?_
    refine ws_lcmp rfl rfl rfl (rfl) (rfl) (rfl) ?_ ?_
    · intro h28
      refine ws_l rfl rfl rfl rfl (rd_move rfl) ?_
      refine ws_l rfl rfl rfl rfl (rd_move rfl) ?_
      refine ws_l rfl rfl rfl rfl (rd_pick_t rfl rfl) ?_
      refine ws_nil ?_
      refine qe_then ?_
      refine wc_false rfl ?_
      refine wc_exit ?_
      refine qe_then_exit ?_
      refine qe_then_exit ?_
      refine qe_block_exit ?_
      refine qe_then ?_
      refine wc_keep [] rfl ?_
      refine wc_seq ?_
      refine wc_plain [(0, .x true)] (by kernel_rfl) ?_
      refine ws_l rfl rfl rfl rfl (rd_assign rfl) ?_
      refine ws_nil ?_
      refine qe_then ?_
      refine wc_ret ?_
      refine qe_body _ (.inl rfl) (res1 rfl (RV.tmp rfl)) ?_
      exact ret_end fun w hp hn ho => rfl
    · intro h28
      refine ws_l rfl rfl rfl rfl (rd_move rfl) ?_
      refine ws_xskip rfl rfl rfl rfl ?_
      refine ws_l rfl rfl rfl rfl (rd_pick_f rfl rfl) ?_
      refine ws_nil ?_
      refine qe_then ?_
      refine wc_false rfl ?_
      refine wc_exit ?_
      refine qe_then_exit ?_
      refine qe_then_exit ?_
      refine qe_block_exit ?_
      refine qe_then ?_
      refine wc_keep [] rfl ?_
      refine wc_seq ?_
      refine wc_plain [(0, .x true)] (by kernel_rfl) ?_
      refine ws_l rfl rfl rfl rfl (rd_assign rfl) ?_
      refine ws_nil ?_
      refine qe_then ?_
      refine wc_ret ?_
      refine qe_body _ (.inl rfl) (res1 rfl (RV.tmp rfl)) ?_
      exact ret_end fun w hp hn ho => rfl
  ·
    obtain rfl := (hso rfl).trans hrows
    refine ws_l rfl rfl rfl rfl (rd_move rfl) ?_
    refine ws_l rfl rfl rfl rfl (rd_extract rfl) ?_
    refine ws_l rfl rfl rfl rfl (rd_extract rfl) ?_
    refine ws_l rfl rfl rfl rfl (rd_assign rfl) ?_
    refine ws_l rfl rfl rfl rfl (rd_assign rfl) ?_
    refine ws_nil ?_
    refine qe_then ?_
    refine wc_keep [(2, _), (3, _), (5, _), (6, _)] rfl ?_
    refine wc_seq ?_
    refine wc_seq ?_
    refine wc_plain [(0, .x true)] (by kernel_rfl) ?_
    refine ws_l rfl rfl rfl rfl (rd_assign rfl) ?_
    refine ws_nil ?_
    refine qe_then ?_
    refine wc_block ?_
    refine wc_loop (fun mz ac w1 => ∃ (i : Nat), mz = hs.length - i ∧ (i ≤ hs.length) ∧ St 131 w [] [(3, v4), (5, ptr p), (6, .bool true), (7, I i)] (setC p m k es c ws d (νs ++ (ν4 ++ (νg ++ φ)))) ac w1) _ (fun ac w1 hs => ⟨0, rfl, (by omega), st_sub hs _ rfl⟩) ?_
    rintro _ ac2 wl2 ⟨i, rfl, hi, hs2⟩
    refine wc_at hs2 ?_
    refine wc_seq ?_
    refine wc_seq ?_
    refine wc_plain [(0, .x true), (1, .x true), (2, .x true), (3, .x true), (4, .x true), (5, .x true), (6, .x true)] (by kernel_rfl) ?_
    refine ws_l rfl rfl rfl rfl (rd_move rfl) ?_
    refine ws_l rfl rfl rfl rfl (rd_move rfl) ?_
    refine ws_l rfl rfl rfl rfl (rd_lenS hrsrc rfl Try.underlying23) ?_
    refine ws_lcmp rfl rfl rfl (rfl) (rfl) (rfl) ?_ ?_
    · intro h28
      refine ws_l rfl rfl rfl rfl (rd_move rfl) ?_
      refine ws_l rfl rfl rfl rfl (rd_move rfl) ?_
      refine ws_l rfl rfl rfl rfl (rd_pick_t rfl rfl) ?_
      refine ws_nil ?_
      refine qe_then ?_
      refine wc_true rfl ?_
      refine wc_skip ?_
      refine qe_then ?_
      refine wc_seq ?_
      refine wc_block ?_
      refine wc_seq ?_
      refine wc_plain [(0, .x true), (1, .x true), (2, .x true), (3, .x true), (4, .x true), (5, .x true), (6, .x true), (7, .x true)] (by kernel_rfl) ?_
      refine ws_l rfl rfl rfl rfl (rd_move rfl) ?_
      refine ws_l rfl rfl rfl rfl (rd_move rfl) ?_
      refine ws_l rfl rfl rfl rfl (rd_move rfl) ?_
      obtain ⟨bv, ov, cv, csv, Ev, frv, rfl, hmv, hcv⟩ := Src.opened hrsrc (by omega)
      have hmiv : HM bv (.cells csv Ev frv) (ν4 ++ (νg ++ φ)) := ⟨hmv⟩
      obtain ⟨xi, hxi⟩ := at_ex (l := hs) (j := i) (by omega)
      have atxi : AtW csv (ov + i * 83) xi.r xi.g := at_w hcv hxi
      refine ws_l rfl rfl rfl rfl (rd_index (ov + i * 83) rfl rfl Try.underlying23 Try.sizeOf43 ⟨by omega, by omega⟩ (by simp)) ?_
      refine ws_l rfl rfl rfl rfl (rd_fieldAddr rfl) ?_
      refine ws_l rfl rfl rfl rfl (rd_load rfl) ?_
      refine ws_call rfl rfl rfl rfl rfl (En.go) (fun w hp hn ho => path_ret p m k es ws c d L W (l.take 24) (νs ++ (ν4 ++ (νg ++ φ))) hL hW hok (by omega) xi.r.id w (hp.mono SubH.mem) (SubH.nd hn)) (fun _ h => by cases h) (fun hh q h => by first | (cases h; done) | exact hh q h) ?_
      rintro v40 wa wb hpo hon hon2 hp1 ⟨g8, ν8, rfl, hown8, hν8⟩
      refine ⟨ν8, hν8, hown8.nd, fun b hb => .inl (hown8.far b hb), ?_⟩
      replace hown8 := hown8.mono hon.size
      refine ws_l rfl rfl rfl rfl (rd_assign rfl) ?_
      refine ws_nil ?_
      refine qe_then ?_
      refine wc_seq ?_
      refine wc_plain [(0, .x true), (1, .x true), (2, .x true), (3, .x true), (4, .x true), (5, .x true), (6, .x true), (7, .x true), (8, .x true), (9, .x true), (10, .x true), (11, .x true), (12, .x true)] (by kernel_rfl) ?_
      refine ws_l rfl rfl rfl rfl (rd_move rfl) ?_
      refine ws_l rfl rfl rfl rfl (rd_move rfl) ?_
      refine ws_l rfl rfl rfl rfl (rd_move rfl) ?_
      refine ws_l rfl rfl rfl rfl (rd_index (ov + i * 83) rfl rfl Try.underlying23 Try.sizeOf43 ⟨by omega, by omega⟩ (by simp)) ?_
      refine ws_l rfl rfl rfl rfl (rd_fieldAddr rfl) ?_
      refine ws_l rfl rfl rfl rfl (rd_load rfl) ?_
      have hxm : xi.r ∈ l.take 24 := by rw [← hrows]; exact List.mem_map.2 ⟨xi, List.mem_of_getElem? hxi, rfl⟩
      by_cases hP : 0 < (pathI (l.take 24) xi.r.id).length
      ·
        obtain ⟨gA8, gn8, gc8⟩ := g8
        obtain ⟨q8, cap8, cur8, hv8, rfl, hq8, hcap8, hcur8⟩ := OwnR.opened hown8 hP
        simp only [Value.slice.injEq] at hv8
        obtain ⟨rfl, rfl, rfl⟩ := hv8
        obtain ⟨hch, hp0, z, hz, hzs⟩ := (pathI_spec hxm).resolve_left (fun e => by rw [e] at hP; cases hP)
        refine ws_callp rfl rfl rfl rfl rfl (En.go) (fun w hp hn ho => by have h := end_ret p m k es ws c d L W (l.take 24) (νs ++ (ν4 ++ (νg ++ φ))) hL hW hok (by omega) xi.r.id w (hp.mono SubH.mem) (SubH.nd hn); rwa [decide_eq_true hP, lastD_at hz] at h) ?_
        refine ws_l rfl rfl rfl rfl (rd_move rfl) ?_
        refine ws_l rfl rfl rfl rfl (rd_extract rfl) ?_
        refine ws_l rfl rfl rfl rfl (rd_extract rfl) ?_
        refine ws_alloc rfl rfl rfl ?_
        intro b9 hb9
        refine ws_store rfl rfl rfl rfl (by first | exact .inl (by assumption) | exact .inr (by simp)) (fun _ h _ => by first | (cases h; done) | exact List.mem_cons_of_mem _ h | exact List.mem_cons_of_mem _ (List.mem_cons_of_mem _ h) | (simp at h ⊢; simp [h])) ?_
        refine ws_l rfl rfl rfl rfl (rd_assign rfl) ?_
        refine ws_nil ?_
        refine qe_then ?_
        refine wc_seq ?_
        refine wc_seq ?_
        refine wc_drawn mixedT _ (fun _ h => h) [(0, .r), (1, .r), (2, .r), (3, .r), (4, .r), (5, .r), (6, .r), (7, .r), (8, .r), (9, .r), (10, .r), (11, .r), (12, .r), (13, .r), (14, .r), (15, .r), (16, .r), (17, .r), (18, .r), (19, .r), (20, .r), (21, .r), (22, .r), (23, .r), (24, .r), (25, .r), (26, .r), (27, .r), (28, .r), (29, .r), (30, .x false), (31, .r), (32, .r), (33, .r), (34, .r), (35, .r)] (by kernel_rfl) ?_
        refine ws_r rfl rfl rfl rfl (rd_move rfl) ?_
        refine ws_r rfl rfl rfl rfl (rd_move rfl) ?_
        refine ws_r rfl rfl rfl rfl (rd_lenO hown8 rfl Try.underlying26) ?_
        refine ws_r rfl rfl rfl rfl (rd_cmp_t rfl rfl rfl (by simp only [cmpP]; omega)) ?_
        refine ws_r rfl rfl rfl rfl (rd_bneq rfl rfl Try.underlying4 rfl) ?_
        refine ws_r rfl rfl rfl rfl (rd_move rfl) ?_
        refine ws_r rfl rfl rfl rfl (rd_move rfl) ?_
        refine ws_r rfl rfl rfl rfl (rd_move rfl) ?_
        refine ws_r rfl rfl rfl rfl (rd_move rfl) ?_
        have at80 : ReadsAt Try.prog 38 cur8 (0 * 32) (idK xi.r.id) := ids_get hcur8 hp0
        refine ws_r rfl rfl rfl rfl (rd_ix (j := 0) rfl rfl Try.underlying26 Try.sizeOf38 (by show _ < (pathI (l.take 24) xi.r.id).length; omega)) ?_
        refine ws_r rfl rfl rfl rfl (rd_load rfl) ?_
        refine ws_r rfl rfl rfl rfl (rd_move rfl) ?_
        refine ws_r rfl rfl rfl rfl (rd_move rfl) ?_
        refine ws_r rfl rfl rfl rfl (rd_index (ov + i * 83) rfl rfl Try.underlying23 Try.sizeOf43 ⟨by omega, by omega⟩ (by simp)) ?_
        refine ws_r rfl rfl rfl rfl (rd_fieldAddr rfl) ?_
        refine ws_r rfl rfl rfl rfl (rd_load rfl) ?_
        refine ws_r rfl rfl rfl rfl (rd_neid_f rfl rfl Try.underlying38 (by kernel_rfl) rfl) ?_
        refine ws_r rfl rfl rfl rfl (rd_move rfl) ?_
        refine ws_r rfl rfl rfl rfl (rd_load rfl) ?_
        refine ws_r rfl rfl rfl rfl (rd_move rfl) ?_
        refine ws_r rfl rfl rfl rfl (rd_move rfl) ?_
        refine ws_r rfl rfl rfl rfl (rd_lenO hown8 rfl Try.underlying26) ?_
        refine ws_r rfl rfl rfl rfl (rd_arith (((pathI (l.take 24) xi.r.id).length - 1 : Nat) : Int) rfl rfl rfl (by have := pathI_len hok.nd xi.r.id; rw [wrap_i64 _ (by omega) (by omega)]; omega)) ?_
        have atz : ReadsAt Try.prog 38 cur8 (((pathI (l.take 24) xi.r.id).length - 1) * 32) (idK z) := ids_get hcur8 hz
        refine ws_r rfl rfl rfl rfl (rd_ix (j := (pathI (l.take 24) xi.r.id).length - 1) rfl rfl Try.underlying26 Try.sizeOf38 (by show _ < (pathI (l.take 24) xi.r.id).length; omega)) ?_
        refine ws_r rfl rfl rfl rfl (rd_load rfl) ?_
        refine ws_r rfl rfl rfl rfl (rd_neid_f rfl rfl Try.underlying38 (by kernel_rfl) rfl) ?_
        refine ws_r rfl rfl rfl rfl (rd_pick_f rfl rfl) ?_
        refine ws_r rfl rfl rfl rfl (rd_move rfl) ?_
        refine ws_r rfl rfl rfl rfl (rd_move rfl) ?_
        refine ws_r rfl rfl rfl rfl (rd_load rfl) ?_
        refine ws_call rfl rfl rfl rfl rfl (En.go) (fun w hp hn ho => succ_ret p m k es ws c d L W (l.take 24) (νs ++ (ν4 ++ (νg ++ φ))) hL hW hok (by omega) z w (hp.mono SubH.mem) (SubH.nd hn)) (fun _ h => by cases h) (fun hh q h => by first | (cases h; done) | exact hh q h) ?_
        rintro v81 wa wb hpo hon hon2 hp1 ⟨g81, ν81, rfl, hown81, hν81⟩
        refine ⟨ν81, hν81, hown81.nd, fun b hb => .inl (hown81.far b hb), ?_⟩
        replace hown81 := hown81.mono hon.size
        rw [hzs] at hown81
        refine ws_r rfl rfl rfl rfl (rd_lenO hown81 rfl Try.underlying26) ?_
        refine ws_r rfl rfl rfl rfl (rd_cmp_f rfl rfl rfl (by simp [cmpP])) ?_
        refine ws_r rfl rfl rfl rfl (rd_pick_f rfl rfl) ?_
        refine ws_r rfl rfl rfl rfl (rd_pick_t rfl rfl) ?_
        refine ws_r rfl rfl rfl rfl (rd_pick_f rfl rfl) ?_
        refine ws_nil ?_
        refine qe_then ?_
        refine wc_false rfl ?_
        refine wc_skip ?_
        refine qe_then ?_
        refine wc_seq ?_
        refine wc_seq ?_
        refine wc_plain [(0, .x true)] (by kernel_rfl) ?_
        refine ws_l rfl rfl rfl rfl (rd_assign rfl) ?_
        refine ws_nil ?_
        refine qe_then ?_
        refine wc_block ?_
        refine wc_loop (fun mz ac w1 => ∃ (kk : Nat), mz = (pathI (l.take 24) xi.r.id).length - kk ∧ (1 ≤ kk) ∧ St 131 w [] [(3, .slice (some ⟨bv, ov, none⟩) hs.length cv), (5, ptr p), (6, .bool true), (7, I i), (8, .slice (some ⟨q8, 0, none⟩) (pathI (l.take 24) xi.r.id).length gc8), (9, ptr b9), (11, I kk)] ((b9, .cells (idC z) 38 (0, 0)) :: ([(q8, .cells cur8 38 (0, 0))] ++ (setC p m k es c ws d (νs ++ (ν4 ++ (νg ++ φ)))))) ac w1) _ (fun ac w1 hs => ⟨1, rfl, (by omega), st_sub hs _ rfl⟩) ?_
        rintro _ ac3 wl3 ⟨kk, rfl, hk1, hs3⟩
        refine wc_at hs3 ?_
        refine wc_seq ?_
        refine wc_seq ?_
        refine wc_plain [(0, .x true), (1, .x true), (2, .x true), (3, .x true)] (by kernel_rfl) ?_
        refine ws_l rfl rfl rfl rfl (rd_move rfl) ?_
        refine ws_l rfl rfl rfl rfl (rd_move rfl) ?_
        refine ws_l rfl rfl rfl rfl (rd_lenO hown8 rfl Try.underlying26) ?_
        refine ws_lcmp rfl rfl rfl (rfl) (rfl) (rfl) ?_ ?_
        · intro h90
          refine ws_nil ?_
          refine qe_then ?_
          refine wc_true rfl ?_
          refine wc_skip ?_
          refine qe_then ?_
          refine wc_seq ?_
          refine wc_block ?_
          refine wc_seq ?_
          refine wc_plain [(0, .x true), (1, .x true), (2, .x true), (3, .x true), (4, .x true), (5, .x true), (6, .x true), (7, .x true)] (by kernel_rfl) ?_
          refine ws_l rfl rfl rfl rfl (rd_move rfl) ?_
          refine ws_l rfl rfl rfl rfl (rd_move rfl) ?_
          refine ws_l rfl rfl rfl rfl (rd_move rfl) ?_
          have hkl : kk < (pathI (l.take 24) xi.r.id).length := by simp only [cmpP] at h90; omega
          obtain ⟨y, hyk⟩ := at_ex (l := (pathI (l.take 24) xi.r.id)) (j := kk) hkl
          obtain ⟨u, rr, hu, hus⟩ := hch (kk - 1) y (by rw [Nat.sub_add_cancel hk1]; exact hyk)
          have hel := pathI_len hok.nd xi.r.id
          refine ws_l rfl rfl rfl rfl (rd_arith ((kk - 1 : Nat) : Int) rfl rfl rfl (by rw [wrap_i64 _ (by omega) (by omega)]; omega)) ?_
          have atu : ReadsAt Try.prog 38 cur8 ((kk - 1) * 32) (idK u) := ids_get hcur8 hu
          refine ws_l rfl rfl rfl rfl (rd_ix (j := kk - 1) rfl rfl Try.underlying26 Try.sizeOf38 (by show _ < (pathI (l.take 24) xi.r.id).length; omega)) ?_
          refine ws_l rfl rfl rfl rfl (rd_load rfl) ?_
          refine ws_call rfl rfl rfl rfl rfl (En.go) (fun w hp hn ho => succ_ret p m k es ws c d L W (l.take 24) (νs ++ (ν4 ++ (νg ++ φ))) hL hW hok (by omega) u w (hp.mono SubH.mem) (SubH.nd hn)) (fun _ h => by cases h) (fun hh q h => by first | (cases h; done) | exact hh q h) ?_
          rintro v99 wa wb hpo hon hon2 hp1 ⟨g12, ν12, rfl, hown12, hν12⟩
          refine ⟨ν12, hν12, hown12.nd, fun b hb => .inl (hown12.far b hb), ?_⟩
          replace hown12 := hown12.mono hon.size
          rw [hus] at hown12
          refine ws_l rfl rfl rfl rfl (rd_assign rfl) ?_
          refine ws_nil ?_
          refine qe_then ?_
          refine wc_seq ?_
          refine wc_drawn mixedT _ (fun _ h => h) [(0, .r), (1, .r), (2, .r), (3, .r), (4, .r), (5, .r), (6, .r), (7, .r), (8, .r), (9, .r), (10, .r), (11, .x true), (12, .x true)] (by kernel_rfl) ?_
          refine ws_r rfl rfl rfl rfl (rd_move rfl) ?_
          refine ws_r rfl rfl rfl rfl (rd_lenO hown12 rfl Try.underlying26) ?_
          refine ws_r rfl rfl rfl rfl (rd_cmp_f rfl rfl rfl (by simp [cmpP]; omega)) ?_
          refine ws_r rfl rfl rfl rfl (rd_move rfl) ?_
          refine ws_r rfl rfl rfl rfl (rd_move rfl) ?_
          obtain ⟨gA12, gn12, gc12⟩ := g12
          obtain ⟨q12, cap12, cur12, hv12, rfl, hq12, hcap12, hcur12⟩ := OwnR.opened hown12 (by simp)
          simp only [Value.slice.injEq] at hv12
          obtain ⟨rfl, rfl, rfl⟩ := hv12
          have at12 : ReadsAt Try.prog 38 cur12 (0 * 32) (idK y) := ids_get hcur12 rfl
          refine ws_r rfl rfl rfl rfl (rd_ix (j := 0) rfl rfl Try.underlying26 Try.sizeOf38 (by simp)) ?_
          refine ws_r rfl rfl rfl rfl (rd_load rfl) ?_
          refine ws_r rfl rfl rfl rfl (rd_move rfl) ?_
          refine ws_r rfl rfl rfl rfl (rd_move rfl) ?_
          have aty : ReadsAt Try.prog 38 cur8 (kk * 32) (idK y) := ids_get hcur8 hyk
          refine ws_r rfl rfl rfl rfl (rd_ix (j := kk) rfl rfl Try.underlying26 Try.sizeOf38 (by show _ < (pathI (l.take 24) xi.r.id).length; omega)) ?_
          refine ws_r rfl rfl rfl rfl (rd_load rfl) ?_
          refine ws_late rfl ?_
          refine ws_l rfl rfl rfl rfl (rd_neid_f rfl rfl Try.underlying38 (by kernel_rfl) rfl) ?_
          refine ws_l rfl rfl rfl rfl (rd_pick_f rfl rfl) ?_
          refine ws_nil ?_
          refine qe_then ?_
          refine wc_false rfl ?_
          refine wc_skip ?_
          refine qe_block ?_
          refine qe_then ?_
          refine wc_plain [(0, .x true), (1, .x true), (2, .x true)] (by kernel_rfl) ?_
          refine ws_l rfl rfl rfl rfl (rd_move rfl) ?_
          refine ws_l rfl rfl rfl rfl (rd_arith (((kk + 1 : Nat) : Int)) rfl rfl rfl (by rw [wrap_i64 _ (by omega) (by omega)]; omega)) ?_
          refine ws_l rfl rfl rfl rfl (rd_assign rfl) ?_
          refine ws_nil ?_
          exact qe_loop fun ac2 w2 hs2 => ⟨_, by omega, kk + 1, rfl, (by omega), st_sub hs2 _ rfl⟩
        · intro h90
          refine ws_nil ?_
          refine qe_then ?_
          refine wc_false rfl ?_
          refine wc_exit ?_
          refine qe_then_exit ?_
          refine qe_then_exit ?_
          refine qe_block_exit ?_
          refine qe_then ?_
          refine wc_seq ?_
          refine wc_plain [(0, .x true), (1, .x true), (2, .x true), (3, .x true), (4, .x true), (5, .x true), (6, .x true), (7, .x true), (8, .x true), (9, .x true), (10, .x true), (11, .x true), (12, .x true), (13, .x true), (14, .x true), (15, .x true), (16, .x true), (17, .x true)] (by kernel_rfl) ?_
          refine ws_l rfl rfl rfl rfl (rd_move rfl) ?_
          refine ws_l rfl rfl rfl rfl (rd_lenO hown8 rfl Try.underlying26) ?_
          refine ws_lcmp rfl rfl rfl (rfl) (rfl) (rfl) ?_ ?_
          · intro h115
            refine ws_l rfl rfl rfl rfl (rd_move rfl) ?_
            refine ws_l rfl rfl rfl rfl (rd_move rfl) ?_
            refine ws_l rfl rfl rfl rfl (rd_load rfl) ?_
            have hl1 : 1 < (pathI (l.take 24) xi.r.id).length := by simp only [cmpP] at h115; omega
            refine ws_callp rfl rfl rfl rfl rfl (En.go) (fun w hp hn ho => by have h := wd_ret p m k es ws c d L W (l.take 24) (νs ++ (ν4 ++ (νg ++ φ))) hL hW hok (by omega) z w (hp.mono SubH.mem) (SubH.nd hn); rwa [path_ends hok.nd hch hz hzs hl1] at h) ?_
            refine ws_l rfl rfl rfl rfl (rd_move rfl) ?_
            refine ws_l rfl rfl rfl rfl (rd_move rfl) ?_
            refine ws_l rfl rfl rfl rfl (rd_move rfl) ?_
            refine ws_l rfl rfl rfl rfl (rd_move rfl) ?_
            refine ws_l rfl rfl rfl rfl (rd_index (ov + i * 83) rfl rfl Try.underlying23 Try.sizeOf43 ⟨by omega, by omega⟩ (by simp)) ?_
            refine ws_l rfl rfl rfl rfl (rd_fieldAddr rfl) ?_
            refine ws_l rfl rfl rfl rfl (rd_load rfl) ?_
            obtain ⟨y1, hy1⟩ := at_ex (l := (pathI (l.take 24) xi.r.id)) (j := 1) hl1
            obtain ⟨u1, r1, hu1, hus1⟩ := hch 0 y1 hy1
            rw [hp0] at hu1
            cases hu1
            have hwx : wdB (l.take 24) xi.r.id = true := wd_succ hok.nd hxm (by rw [hus1]; simp)
            refine ws_callp rfl rfl rfl rfl rfl (En.go) (fun w hp hn ho => by have h := wd_ret p m k es ws c d L W (l.take 24) (νs ++ (ν4 ++ (νg ++ φ))) hL hW hok (by omega) xi.r.id w (hp.mono SubH.mem) (SubH.nd hn); rwa [hwx] at h) ?_
            refine ws_l rfl rfl rfl rfl (rd_not rfl) ?_
            refine ws_l rfl rfl rfl rfl (rd_pick_f rfl rfl) ?_
            refine ws_l rfl rfl rfl rfl (rd_pick_t rfl rfl) ?_
            refine ws_nil ?_
            refine qe_then ?_
            refine wc_false rfl ?_
            refine wc_skip ?_
            refine qe_block ?_
            refine qe_then ?_
            refine wc_plain [(0, .x true), (1, .x true), (2, .x true)] (by kernel_rfl) ?_
            refine ws_l rfl rfl rfl rfl (rd_move rfl) ?_
            refine ws_l rfl rfl rfl rfl (rd_arith (((i + 1 : Nat) : Int)) rfl rfl rfl (by rw [wrap_i64 _ (by omega) (by omega)]; omega)) ?_
            refine ws_l rfl rfl rfl rfl (rd_assign rfl) ?_
            refine ws_nil ?_
            exact qe_loop fun ac2 w2 hs2 => ⟨_, by omega, i + 1, rfl, (by omega), st_sub hs2 _ rfl⟩
          · intro h115
            refine ws_l rfl rfl rfl rfl (rd_move rfl) ?_
            refine ws_xskip rfl rfl rfl rfl ?_
            refine ws_xskip rfl rfl rfl rfl ?_
            refine ws_xskip rfl rfl rfl rfl ?_
            refine ws_xskip rfl rfl rfl rfl ?_
            refine ws_xskip rfl rfl rfl rfl ?_
            refine ws_xskip rfl rfl rfl rfl ?_
            refine ws_xskip rfl rfl rfl rfl ?_
            refine ws_xskip rfl rfl rfl rfl ?_
            refine ws_xskip rfl rfl rfl rfl ?_
            refine ws_xskip rfl rfl rfl rfl ?_
            refine ws_xskip rfl rfl rfl rfl ?_
            refine ws_xskip rfl rfl rfl rfl ?_
            refine ws_xskip rfl rfl rfl rfl ?_
            refine ws_l rfl rfl rfl rfl (rd_pick_f rfl rfl) ?_
            refine ws_nil ?_
            refine qe_then ?_
            refine wc_false rfl ?_
            refine wc_skip ?_
            refine qe_block ?_
            refine qe_then ?_
            refine wc_plain [(0, .x true), (1, .x true), (2, .x true)] (by kernel_rfl) ?_
            refine ws_l rfl rfl rfl rfl (rd_move rfl) ?_
            refine ws_l rfl rfl rfl rfl (rd_arith (((i + 1 : Nat) : Int)) rfl rfl rfl (by rw [wrap_i64 _ (by omega) (by omega)]; omega)) ?_
            refine ws_l rfl rfl rfl rfl (rd_assign rfl) ?_
            refine ws_nil ?_
            exact qe_loop fun ac2 w2 hs2 => ⟨_, by omega, i + 1, rfl, (by omega), st_sub hs2 _ rfl⟩
      ·
        refine ws_callp rfl rfl rfl rfl rfl (En.go) (fun w hp hn ho => by have h := end_ret p m k es ws c d L W (l.take 24) (νs ++ (ν4 ++ (νg ++ φ))) hL hW hok (by omega) xi.r.id w (hp.mono SubH.mem) (SubH.nd hn); rwa [decide_eq_false hP] at h) ?_
        refine ws_l rfl rfl rfl rfl (rd_move rfl) ?_
        refine ws_l rfl rfl rfl rfl (rd_extract rfl) ?_
        refine ws_l rfl rfl rfl rfl (rd_extract rfl) ?_
        refine ws_alloc rfl rfl rfl ?_
        intro b9 hb9
        refine ws_store rfl rfl rfl rfl (by first | exact .inl (by assumption) | exact .inr (by simp)) (fun _ h _ => by first | (cases h; done) | exact List.mem_cons_of_mem _ h | exact List.mem_cons_of_mem _ (List.mem_cons_of_mem _ h) | (simp at h ⊢; simp [h])) ?_
        refine ws_l rfl rfl rfl rfl (rd_assign rfl) ?_
        refine ws_nil ?_
        refine qe_then ?_
        refine wc_seq ?_
        refine wc_seq ?_
        refine wc_drawn mixedT _ (fun _ h => h) [(0, .r), (1, .r), (2, .r), (3, .r), (4, .r), (5, .r), (6, .r), (7, .r), (8, .r), (9, .r), (10, .r), (11, .r), (12, .r), (13, .r), (14, .r), (15, .r), (16, .r), (17, .r), (18, .r), (19, .r), (20, .r), (21, .r), (22, .r), (23, .r), (24, .r), (25, .r), (26, .r), (27, .r), (28, .r), (29, .r), (30, .x false), (31, .r), (32, .r), (33, .r), (34, .r), (35, .r)] (by kernel_rfl) ?_
        refine ws_r rfl rfl rfl rfl (rd_move rfl) ?_
        refine ws_r rfl rfl rfl rfl (rd_move rfl) ?_
        refine ws_r rfl rfl rfl rfl (rd_lenO hown8 rfl Try.underlying26) ?_
        refine ws_r rfl rfl rfl rfl (rd_cmp_f rfl rfl rfl (by simp only [cmpP]; omega)) ?_
        refine ws_r rfl rfl rfl rfl (rd_bneq rfl rfl Try.underlying4 rfl) ?_
        refine ws_r rfl rfl rfl rfl (rd_move rfl) ?_
        refine ws_r rfl rfl rfl rfl (rd_move rfl) ?_
        refine ws_r rfl rfl rfl rfl (rd_move rfl) ?_
        refine ws_rskip rfl rfl rfl rfl ?_
        refine ws_rskip rfl rfl rfl rfl ?_
        refine ws_rskip rfl rfl rfl rfl ?_
        refine ws_rskip rfl rfl rfl rfl ?_
        refine ws_rskip rfl rfl rfl rfl ?_
        refine ws_rskip rfl rfl rfl rfl ?_
        refine ws_rskip rfl rfl rfl rfl ?_
        refine ws_rskip rfl rfl rfl rfl ?_
        refine ws_rskip rfl rfl rfl rfl ?_
        refine ws_rskip rfl rfl rfl rfl ?_
        refine ws_rskip rfl rfl rfl rfl ?_
        refine ws_rskip rfl rfl rfl rfl ?_
        refine ws_rskip rfl rfl rfl rfl ?_
        refine ws_rskip rfl rfl rfl rfl ?_
        refine ws_rskip rfl rfl rfl rfl ?_
        refine ws_rskip rfl rfl rfl rfl ?_
        refine ws_rskip rfl rfl rfl rfl ?_
        refine ws_rskip rfl rfl rfl rfl ?_
        refine ws_rskip rfl rfl rfl rfl ?_
        refine ws_rskip rfl rfl rfl rfl ?_
        refine ws_rskip rfl rfl rfl rfl ?_
        refine ws_rskip rfl rfl rfl rfl ?_
        refine ws_xskip rfl rfl rfl rfl ?_
        refine ws_rskip rfl rfl rfl rfl ?_
        refine ws_rskip rfl rfl rfl rfl ?_
        refine ws_rskip rfl rfl rfl rfl ?_
        refine ws_r rfl rfl rfl rfl (rd_pick_f rfl rfl) ?_
        refine ws_r rfl rfl rfl rfl (rd_pick_f rfl rfl) ?_
        refine ws_nil ?_
        refine qe_then ?_
        refine wc_false rfl ?_
        refine wc_skip ?_
        refine qe_then ?_
        refine wc_seq ?_
        refine wc_seq ?_
        refine wc_plain [(0, .x true)] (by kernel_rfl) ?_
        refine ws_l rfl rfl rfl rfl (rd_assign rfl) ?_
        refine ws_nil ?_
        refine qe_then ?_
        refine wc_block ?_
        refine wc_loop (fun mz ac w1 => ∃ (kk : Nat), mz = (pathI (l.take 24) xi.r.id).length - kk ∧ (1 ≤ kk) ∧ St 131 w [] [(3, .slice (some ⟨bv, ov, none⟩) hs.length cv), (5, ptr p), (6, .bool true), (7, I i), (8, g8.v), (9, ptr b9), (11, I kk)] ((b9, .cells (idC (lastD (pathI (l.take 24) xi.r.id))) 38 (0, 0)) :: (ν8 ++ (setC p m k es c ws d (νs ++ (ν4 ++ (νg ++ φ)))))) ac w1) _ (fun ac w1 hs => ⟨1, rfl, (by omega), st_sub hs _ rfl⟩) ?_
        rintro _ ac4 wl4 ⟨kk, rfl, hk1, hs4⟩
        refine wc_at hs4 ?_
        skip
        refine wc_seq ?_
        refine wc_seq ?_
        refine wc_plain [(0, .x true), (1, .x true), (2, .x true), (3, .x true)] (by kernel_rfl) ?_
        refine ws_l rfl rfl rfl rfl (rd_move rfl) ?_
        refine ws_l rfl rfl rfl rfl (rd_move rfl) ?_
        refine ws_l rfl rfl rfl rfl (rd_lenO hown8 rfl Try.underlying26) ?_
        refine ws_l rfl rfl rfl rfl (rd_cmp_f rfl rfl rfl (by simp only [cmpP]; omega)) ?_
        refine ws_nil ?_
        refine qe_then ?_
        refine wc_false rfl ?_
        refine wc_exit ?_
        refine qe_then_exit ?_
        refine qe_then_exit ?_
        refine qe_block_exit ?_
        refine qe_then ?_
        refine wc_seq ?_
        refine wc_plain [(0, .x true), (1, .x true), (2, .x true), (3, .x true), (4, .x true), (5, .x true), (6, .x true), (7, .x true), (8, .x true), (9, .x true), (10, .x true), (11, .x true), (12, .x true), (13, .x true), (14, .x true), (15, .x true), (16, .x true), (17, .x true)] (by kernel_rfl) ?_
        refine ws_l rfl rfl rfl rfl (rd_move rfl) ?_
        refine ws_l rfl rfl rfl rfl (rd_lenO hown8 rfl Try.underlying26) ?_
        refine ws_l rfl rfl rfl rfl (rd_cmp_f rfl rfl rfl (by simp only [cmpP]; omega)) ?_
        refine ws_l rfl rfl rfl rfl (rd_move rfl) ?_
        refine ws_xskip rfl rfl rfl rfl ?_
        refine ws_xskip rfl rfl rfl rfl ?_
        refine ws_xskip rfl rfl rfl rfl ?_
        refine ws_xskip rfl rfl rfl rfl ?_
        refine ws_xskip rfl rfl rfl rfl ?_
        refine ws_xskip rfl rfl rfl rfl ?_
        refine ws_xskip rfl rfl rfl rfl ?_
        refine ws_xskip rfl rfl rfl rfl ?_
        refine ws_xskip rfl rfl rfl rfl ?_
        refine ws_xskip rfl rfl rfl rfl ?_
        refine ws_xskip rfl rfl rfl rfl ?_
        refine ws_xskip rfl rfl rfl rfl ?_
        refine ws_xskip rfl rfl rfl rfl ?_
        refine ws_l rfl rfl rfl rfl (rd_pick_f rfl rfl) ?_
        refine ws_nil ?_
        refine qe_then ?_
        refine wc_false rfl ?_
        refine wc_skip ?_
        refine qe_block ?_
        refine qe_then ?_
        refine wc_plain [(0, .x true), (1, .x true), (2, .x true)] (by kernel_rfl) ?_
        refine ws_l rfl rfl rfl rfl (rd_move rfl) ?_
        refine ws_l rfl rfl rfl rfl (rd_arith (((i + 1 : Nat) : Int)) rfl rfl rfl (by rw [wrap_i64 _ (by omega) (by omega)]; omega)) ?_
        refine ws_l rfl rfl rfl rfl (rd_assign rfl) ?_
        refine ws_nil ?_
        exact qe_loop fun ac2 w2 hs2 => ⟨_, by omega, i + 1, rfl, (by omega), st_sub hs2 _ rfl⟩
    · intro h28
      refine ws_l rfl rfl rfl rfl (rd_move rfl) ?_
      refine ws_xskip rfl rfl rfl rfl ?_
      refine ws_l rfl rfl rfl rfl (rd_pick_f rfl rfl) ?_
      refine ws_nil ?_
      refine qe_then ?_
      refine wc_false rfl ?_
      refine wc_exit ?_
      refine qe_then_exit ?_
      refine qe_then_exit ?_
      refine qe_block_exit ?_
      refine qe_then ?_
      refine wc_keep [] rfl ?_
      refine wc_seq ?_
      refine wc_plain [(0, .x true)] (by kernel_rfl) ?_
      refine ws_l rfl rfl rfl rfl (rd_assign rfl) ?_
      refine ws_nil ?_
      refine qe_then ?_
      refine wc_ret ?_
      refine qe_body _ (.inl rfl) (res1 rfl (RV.tmp rfl)) ?_
      exact ret_end fun w hp hn ho => rfl

end Go.Proofs.Ytaagmgpfpaanlaa
