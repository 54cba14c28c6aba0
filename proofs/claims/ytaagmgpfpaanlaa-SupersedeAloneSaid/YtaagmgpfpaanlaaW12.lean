/- Walk: SupersedeEnds. No conditions. -/
import Derived.Test.YtaagmgpfpaanlaaW11
import Derived.Test.YtaagmgpfpaanlaaW8
namespace Go.Proofs.Ytaagmgpfpaanlaa
open Go Go.RowKit Go.Sx
set_option linter.unusedSimpArgs false
set_option linter.unusedVariables false

set_option maxRecDepth 100000 in
set_option maxHeartbeats 2000000 in
theorem supersedeEnds_ret (v : Value) (φ : Heap) (l : List RR) (hsrc : Src φ v 82 l.length (l.flatMap rrL)) (hcap : CapOK v l.length) (w : World) (hφ : HpOK φ w) (hnd : (φ.map Prod.fst).Nodup) : Ret Try.prog 3 [v] w [] (fun u _ => u = .bool true) := by
  refine enter (n := 75) (args := [v]) [] φ Try.func3 rfl rfl rfl hφ hnd ?_
  refine wc_seq ?_
  refine wc_plain [(0, .x true)] (by kernel_rfl) ?_
  refine ws_l rfl rfl rfl rfl (rd_assign rfl) ?_
  refine ws_nil ?_
  refine qe_then ?_
  refine wc_seq ?_
  refine wc_plain [(0, .x true), (1, .x true), (2, .x true), (3, .x true), (4, .x true), (5, .x true), (6, .x true)] (by kernel_rfl) ?_
  refine ws_l rfl rfl rfl rfl (rd_move rfl) ?_
  refine ws_call rfl rfl rfl rfl rfl (En.go) (fun w hp hn ho => rows_law v φ l hsrc hcap w (hp.mono SubH.mem) hnd) (fun _ h => by cases h) (fun hh q h => by first | (cases h; done) | exact hh q h) ?_
  rintro v13 wa wb hpo hon hon2 hp1 ⟨hs, v4, u10, ν4, νg, rfl, hrows, hrp, hrn, hrf, hrown, hrgs, hu10, hc10⟩
  refine ⟨ν4 ++ νg, hrp, hrn, fun b hb => .inl (hrf b hb), ?_⟩
  have hl24 : (l.take 24).length ≤ 24 := by rw [List.length_take]; omega
  have hsl : hs.length = (l.take 24).length := by rw [← hrows, List.length_map]
  replace hrown := hrown.mono hon.size
  rw [List.append_assoc]
  have hrsrc : Src (ν4 ++ (νg ++ φ)) v4 83 hs.length (hs.flatMap hrL) := hrown.src.mono (fun q hq => List.mem_append_left _ hq)
  have hrg : ∀ x ∈ hs, GOK (ν4 ++ (νg ++ φ)) x.g x.r.grp := fun x hx => (hrgs x hx).mono (fun q hq => List.mem_append_right _ (List.mem_append_left _ hq))
  refine ws_l rfl rfl rfl rfl (rd_move rfl) ?_
  refine ws_l rfl rfl rfl rfl (rd_extract rfl) ?_
  refine ws_l rfl rfl rfl rfl (rd_extract rfl) ?_
  refine ws_l rfl rfl rfl rfl (rd_assign rfl) ?_
  refine ws_l rfl rfl rfl rfl (rd_assign rfl) ?_
  refine ws_nil ?_
  refine qe_then ?_
  refine wc_keep [(2, _), (3, _), (4, _)] rfl ?_
  refine wc_seq ?_
  refine wc_plain [(0, .x true), (1, .x true), (2, .x true), (3, .x true), (4, .x true), (5, .x true), (6, .x true)] (by kernel_rfl) ?_
  refine ws_l rfl rfl rfl rfl (rd_move rfl) ?_
  refine ws_call rfl rfl rfl rfl rfl (En.go) (fun w hp hn ho => ends_ret v4 (ν4 ++ (νg ++ φ)) hs hrsrc (by omega) hrg w (hp.mono SubH.mem) (SubH.nd hn)) (fun _ h => by cases h) (fun hh q h => by first | (cases h; done) | exact hh q h) ?_
  rintro v18 wa wb hpo hon hon2 hp1 ⟨g5, ν5, rfl, hown5, hν5⟩
  refine ⟨ν5, hν5, hown5.nd, fun b hb => .inl (hown5.far b hb), ?_⟩
  replace hown5 := hown5.mono hon.size
  rw [hrows] at hown5
  rw [hrows]
  refine ws_l rfl rfl rfl rfl (rd_move rfl) ?_
  refine ws_l rfl rfl rfl rfl (rd_extract rfl) ?_
  refine ws_l rfl rfl rfl rfl (rd_extract rfl) ?_
  refine ws_l rfl rfl rfl rfl (rd_assign rfl) ?_
  refine ws_l rfl rfl rfl rfl (rd_assign rfl) ?_
  refine ws_nil ?_
  refine qe_then ?_
  refine wc_keep [(2, _), (3, _), (4, _), (5, _), (6, _)] rfl ?_
  refine wc_seq ?_
  refine wc_plain [(0, .x true), (1, .x true), (2, .x true), (3, .x true), (4, .x true), (5, .x true), (6, .x true)] (by kernel_rfl) ?_
  refine ws_l rfl rfl rfl rfl (rd_move rfl) ?_
  refine ws_call rfl rfl rfl rfl rfl (En.go) (fun w hp hn ho => withdrawn_ret v4 (ν4 ++ (νg ++ φ)) hs hrsrc (by omega) hrg w (hp.mono SubH.mem) (SubH.nd hn)) (fun _ h => by cases h) (fun hh q h => by first | (cases h; done) | exact hh q h) ?_
  rintro v23 wa wb hpo hon hon2 hp1 ⟨g7, ν7, rfl, hown7, hν7⟩
  refine ⟨ν7, hν7, hown7.nd, fun b hb => .inl (hown7.far b hb), ?_⟩
  replace hown7 := hown7.mono hon.size
  rw [hrows] at hown7
  rw [hrows]
  refine ws_l rfl rfl rfl rfl (rd_move rfl) ?_
  refine ws_l rfl rfl rfl rfl (rd_extract rfl) ?_
  refine ws_l rfl rfl rfl rfl (rd_extract rfl) ?_
  refine ws_l rfl rfl rfl rfl (rd_assign rfl) ?_
  refine ws_l rfl rfl rfl rfl (rd_assign rfl) ?_
  refine ws_nil ?_
  refine qe_then ?_
  refine wc_keep [(2, _), (4, _), (5, _), (6, _), (7, _), (8, _)] rfl ?_
  refine wc_seq ?_
  refine wc_plain [(0, .x true), (1, .x true), (2, .x true), (3, .x true), (4, .x true), (5, .x true), (6, .x true)] (by kernel_rfl) ?_
  refine ws_l rfl rfl rfl rfl (rd_move rfl) ?_
  refine ws_call rfl rfl rfl rfl rfl (En.go) (fun w hp hn ho => check_ref u10 φ (l.take 24) hu10 (by omega) hc10 (by omega) w (hp.mono SubH.mem) hnd) (fun _ h => by cases h) (fun hh q h => by first | (cases h; done) | exact hh q h) ?_
  rintro v28 wa wb hpo hon hon2 hp1 ⟨i0, rfl⟩
  refine ⟨[], HpOK.nil _, by simp, by simp, ?_⟩
  refine ws_l rfl rfl rfl rfl (rd_move rfl) ?_
  refine ws_l rfl rfl rfl rfl (rd_extract rfl) ?_
  refine ws_l rfl rfl rfl rfl (rd_extract rfl) ?_
  refine ws_l rfl rfl rfl rfl (rd_assign rfl) ?_
  refine ws_l rfl rfl rfl rfl (rd_assign rfl) ?_
  refine ws_nil ?_
  refine qe_then ?_
  refine wc_keep [(2, _), (4, _), (5, _), (6, _), (7, _), (8, _), (10, _)] rfl ?_
  refine wc_seq ?_
  refine wc_seq ?_
  refine wc_plain [(0, .x true), (1, .x true), (2, .x true), (3, .x true), (4, .x true), (5, .x true), (6, .x true), (7, .x true)] (by kernel_rfl) ?_
  refine ws_l rfl rfl rfl rfl (rd_move rfl) ?_
  refine ws_l rfl rfl rfl rfl (rd_move rfl) ?_
  refine ws_l rfl rfl rfl rfl (rd_cmp_f rfl rfl rfl (by simp [cmpP])) ?_
  refine ws_l rfl rfl rfl rfl (rd_move rfl) ?_
  refine ws_l rfl rfl rfl rfl (rd_move rfl) ?_
  refine ws_l rfl rfl rfl rfl (rd_move rfl) ?_
  refine ws_l rfl rfl rfl rfl (rd_cmp_f rfl rfl rfl (by simp [cmpP])) ?_
  refine ws_l rfl rfl rfl rfl (rd_pick_f rfl rfl) ?_
  refine ws_nil ?_
  refine qe_then ?_
  refine wc_keep [(2, _), (4, _), (5, _), (7, _), (10, _), (38, _)] rfl ?_
  refine wc_false rfl ?_
  refine wc_skip ?_
  refine qe_then ?_
  refine wc_seq ?_
  refine wc_seq ?_
  refine wc_plain [(0, .x true), (1, .x true)] (by kernel_rfl) ?_
  refine ws_l rfl rfl rfl rfl (rd_move rfl) ?_
  by_cases hchk : chkE (l.take 24) = 0
  ·
    refine ws_l rfl rfl rfl rfl (rd_cmp_f rfl rfl rfl (by simp only [cmpP]; omega)) ?_
    rw [endsI, if_pos hchk] at hown5 hown7
    refine ws_nil ?_
    refine qe_then ?_
    refine wc_false rfl ?_
    refine wc_skip ?_
    refine qe_then ?_
    refine wc_seq ?_
    refine wc_plain [(0, .x true), (1, .x true), (2, .x true), (3, .x true), (4, .x true), (5, .x true), (6, .x true), (7, .x true), (8, .x true), (9, .x true), (10, .x true), (11, .x true), (12, .x true), (13, .x true), (14, .x true), (15, .x true), (16, .x true), (17, .x true), (18, .x true), (19, .x true), (20, .x true), (21, .x true), (22, .x true), (23, .x true)] (by kernel_rfl) ?_
    refine ws_callp rfl rfl rfl rfl rfl (En.go) (fun w hp hn ho => known_ret w) ?_
    refine ws_l rfl rfl rfl rfl (rd_move rfl) ?_
    refine ws_l rfl rfl rfl rfl (rd_move rfl) ?_
    refine ws_l rfl rfl rfl rfl (rd_move rfl) ?_
    refine ws_call rfl rfl rfl rfl rfl (En.go) (fun w hp hn ho => ids_ref u10 φ (l.take 24) hu10 (by omega) true w (hp.mono SubH.mem) hnd) (fun _ h => by cases h) (fun hh q h => by first | (cases h; done) | exact hh q h) ?_
    rintro v56 wa wb hpo hon hon2 hp1 ⟨g56, ν56, rfl, hown56, hν56⟩
    refine ⟨ν56, hν56, hown56.nd, fun b hb => .inl (hown56.far b hb), ?_⟩
    replace hown56 := hown56.mono hon.size
    refine ws_callp rfl rfl rfl rfl rfl (En.go) (fun w hp hn ho => by have h := same_law g5.v g56.v (ν5 ++ ν56) _ _ (hown5.src.mono (fun q hq => List.mem_append_left _ hq)) (hown56.src.mono (fun q hq => List.mem_append_right _ hq)) (by have := where_two (l.take 24) (wdB (l.take 24)); omega) w (hp.mono SubH.mem) (SubH.nd hn); rwa [decide_eq_true (ends_true hchk)] at h) ?_
    refine ws_l rfl rfl rfl rfl (rd_pick_t rfl rfl) ?_
    refine ws_l rfl rfl rfl rfl (rd_move rfl) ?_
    refine ws_l rfl rfl rfl rfl (rd_move rfl) ?_
    refine ws_l rfl rfl rfl rfl (rd_move rfl) ?_
    refine ws_call rfl rfl rfl rfl rfl (En.go) (fun w hp hn ho => ids_ref u10 φ (l.take 24) hu10 (by omega) false w (hp.mono SubH.mem) hnd) (fun _ h => by cases h) (fun hh q h => by first | (cases h; done) | exact hh q h) ?_
    rintro v62 wa wb hpo hon hon2 hp1 ⟨g62, ν62, rfl, hown62, hν62⟩
    refine ⟨ν62, hν62, hown62.nd, fun b hb => .inl (hown62.far b hb), ?_⟩
    replace hown62 := hown62.mono hon.size
    refine ws_callp rfl rfl rfl rfl rfl (En.go) (fun w hp hn ho => by have h := same_law g7.v g62.v (ν7 ++ ν62) _ _ (hown7.src.mono (fun q hq => List.mem_append_left _ hq)) (hown62.src.mono (fun q hq => List.mem_append_right _ hq)) (by have := where_two (l.take 24) (wdB (l.take 24)); omega) w (hp.mono SubH.mem) (SubH.nd hn); rwa [decide_eq_true (ends_false hchk)] at h) ?_
    refine ws_l rfl rfl rfl rfl (rd_pick_t rfl rfl) ?_
    refine ws_l rfl rfl rfl rfl (rd_move rfl) ?_
    refine ws_l rfl rfl rfl rfl (rd_move rfl) ?_
    refine ws_l rfl rfl rfl rfl (rd_lenO hown5 rfl Try.underlying26) ?_
    refine ws_l rfl rfl rfl rfl (rd_move rfl) ?_
    refine ws_l rfl rfl rfl rfl (rd_lenO hown7 rfl Try.underlying26) ?_
    have htwo := where_two (l.take 24) (wdB (l.take 24))
    refine ws_l rfl rfl rfl rfl (rd_arith (((l.take 24).length : Nat) : Int) rfl rfl rfl (by rw [wrap_i64 _ (by omega) (by omega)]; omega)) ?_
    refine ws_l rfl rfl rfl rfl (rd_move rfl) ?_
    refine ws_l rfl rfl rfl rfl (rd_lenS hu10 rfl Try.underlying22) ?_
    refine ws_l rfl rfl rfl rfl (rd_cmp_t rfl rfl rfl (by simp [cmpP])) ?_
    refine ws_l rfl rfl rfl rfl (rd_pick_t rfl rfl) ?_
    refine ws_l rfl rfl rfl rfl (rd_assign rfl) ?_
    refine ws_nil ?_
    refine qe_then ?_
    refine wc_keep [(2, _)] rfl ?_
    refine wc_ret ?_
    refine qe_body _ (.inl rfl) (res1 rfl (RV.tmp rfl)) ?_
    exact ret_end fun w hp hn ho => rfl
  ·
    refine ws_l rfl rfl rfl rfl (rd_cmp_t rfl rfl rfl (by simp only [cmpP]; omega)) ?_
    rw [endsI, if_neg hchk] at hown5 hown7
    refine ws_nil ?_
    refine qe_then ?_
    refine wc_true rfl ?_
    refine wc_seq ?_
    refine wc_plain [(0, .x true), (1, .x true), (2, .x true), (3, .x true), (4, .x true), (5, .x true), (6, .x true), (7, .x true), (8, .x true), (9, .x true), (10, .x true), (11, .x true)] (by kernel_rfl) ?_
    refine ws_callp rfl rfl rfl rfl rfl (En.go) (fun w hp hn ho => known_ret w) ?_
    refine ws_l rfl rfl rfl rfl (rd_move rfl) ?_
    refine ws_l rfl rfl rfl rfl (rd_move rfl) ?_
    refine ws_l rfl rfl rfl rfl (rd_lenO hown5 rfl Try.underlying26) ?_
    refine ws_l rfl rfl rfl rfl (rd_cmp_t rfl rfl rfl (by simp [cmpP])) ?_
    refine ws_l rfl rfl rfl rfl (rd_pick_t rfl rfl) ?_
    refine ws_l rfl rfl rfl rfl (rd_move rfl) ?_
    refine ws_l rfl rfl rfl rfl (rd_move rfl) ?_
    refine ws_l rfl rfl rfl rfl (rd_lenO hown7 rfl Try.underlying26) ?_
    refine ws_l rfl rfl rfl rfl (rd_cmp_t rfl rfl rfl (by simp [cmpP])) ?_
    refine ws_l rfl rfl rfl rfl (rd_pick_t rfl rfl) ?_
    refine ws_l rfl rfl rfl rfl (rd_assign rfl) ?_
    refine ws_nil ?_
    refine qe_then ?_
    refine wc_keep [(2, _), (4, _), (5, _), (7, _)] rfl ?_
    refine wc_ret ?_
    refine qe_then_ret ?_
    refine qe_body _ (.inl rfl) (res1 rfl (RV.tmp rfl)) ?_
    exact ret_end fun w hp hn ho => rfl

end Go.Proofs.Ytaagmgpfpaanlaa
