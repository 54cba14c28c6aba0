/- Walk: SupersedeOrder. No conditions. -/
import Derived.Test.YtaagmgpfpaanlaaW12
import Derived.Test.YtaagmgpfpaanlaaLaw
namespace Go.Proofs.Ytaagmgpfpaanlaa
open Go Go.RowKit Go.Sx
set_option linter.unusedSimpArgs false
set_option linter.unusedVariables false

set_option maxRecDepth 100000 in
set_option maxHeartbeats 2000000 in
theorem supersedeOrder_ret (v : Value) (φ : Heap) (l : List RR) (hsrc : Src φ v 82 l.length (l.flatMap rrL)) (hcap : CapOK v l.length) (tn : UInt8) (w : World) (hφ : HpOK φ w) (hnd : (φ.map Prod.fst).Nodup) : Ret Try.prog 4 [v, u8v tn] w [] (fun u _ => u = .bool true) := by
  refine enter (n := 80) (args := [v, u8v tn]) [] φ Try.func4 rfl rfl rfl hφ hnd ?_
  refine wc_seq ?_
  refine wc_plain [(0, .x true)] (by kernel_rfl) ?_
  refine ws_l rfl rfl rfl rfl (rd_assign rfl) ?_
  refine ws_nil ?_
  refine qe_then ?_
  refine wc_seq ?_
  refine wc_plain [(0, .x true), (1, .x true), (2, .x true), (3, .x true), (4, .x true), (5, .x true), (6, .x true)] (by kernel_rfl) ?_
  refine ws_l rfl rfl rfl rfl (rd_move rfl) ?_
  refine ws_call rfl rfl rfl rfl rfl (En.go) (fun w hp hn ho => rows_law v φ l hsrc hcap w (hp.mono SubH.mem) hnd) (fun _ h => by cases h) (fun hh q h => by first | (cases h; done) | exact hh q h) ?_
  rintro v17 wa wb hpo hon hon2 hp1 ⟨hs, v4, u10, ν4, νg, rfl, hrows, hrp, hrn, hrf, hrown, hrgs, hu10, hc10⟩
  refine ⟨ν4 ++ νg, hrp, hrn, fun b hb => .inl (hrf b hb), ?_⟩
  have hl24 : (l.take 24).length ≤ 24 := by rw [List.length_take]; omega
  have hsl : hs.length = (l.take 24).length := by rw [← hrows, List.length_map]
  replace hrown := hrown.mono hon.size
  rw [List.append_assoc]
  have hrsrc : Src (ν4 ++ (νg ++ φ)) v4 83 hs.length (hs.flatMap hrL) := hrown.src.mono (fun q hq => List.mem_append_left _ hq)
  have hrg : ∀ x ∈ hs, GOK (ν4 ++ (νg ++ φ)) x.g x.r.grp := fun x hx => (hrgs x hx).mono (fun q hq => List.mem_append_right _ (List.mem_append_left _ hq))
  refine ws_l rfl rfl rfl rfl (rd_move rfl) ?_
  refine ws_l rfl rfl rfl rfl (rd_extract rfl) ?_
  refine ws_l rfl rfl rfl rfl (rd_extract rfl) ?_
  refine ws_l rfl rfl rfl rfl (rd_assign rfl) ?_
  refine ws_l rfl rfl rfl rfl (rd_assign rfl) ?_
  refine ws_nil ?_
  refine qe_then ?_
  refine wc_keep [(1, _), (4, _), (5, _)] rfl ?_
  refine wc_seq ?_
  refine wc_plain [(0, .x true), (1, .x true), (2, .x true)] (by kernel_rfl) ?_
  refine ws_l rfl rfl rfl rfl (rd_move rfl) ?_
  have hrs0 := hrsrc
  refine ws_l rfl rfl rfl rfl (rd_lenS hrsrc rfl Try.underlying23) ?_
  refine ws_l rfl rfl rfl rfl (rd_assign rfl) ?_
  refine ws_nil ?_
  refine qe_then ?_
  refine wc_seq ?_
  refine wc_plain [(0, .x true)] (by kernel_rfl) ?_
  refine ws_l rfl rfl rfl rfl (rd_assign rfl) ?_
  refine ws_nil ?_
  refine qe_then ?_
  refine wc_seq ?_
  refine wc_seq ?_
  refine wc_plain [(0, .x true)] (by kernel_rfl) ?_
  refine ws_l rfl rfl rfl rfl (rd_assign rfl) ?_
  refine ws_nil ?_
  refine qe_then ?_
  refine wc_block ?_
  refine wc_loop (fun mz ac w1 => ∃ (j : Nat) (v8 : Value) (ν8 : Heap), mz = hs.length - j ∧ (j ≤ hs.length) ∧ (OwnR w.heap.size 43 83 v8 ν8 (((hs.drop (tn.toNat % hs.length) ++ hs.take (tn.toNat % hs.length)).reverse).take j).length ((((hs.drop (tn.toNat % hs.length) ++ hs.take (tn.toNat % hs.length)).reverse).take j).flatMap hrL)) ∧ St 80 w [] [(1, u8v tn), (5, v4), (7, I hs.length), (8, v8), (9, I j)] (ν8 ++ (ν4 ++ (νg ++ φ))) ac w1) _ (fun ac w1 hs => ⟨0, .slice none 0 0, [], rfl, (by omega), (OwnR.nil _ _ _), st_sub hs _ rfl⟩) ?_
  rintro _ ac1 wl1 ⟨j, v8, ν8, rfl, hj, hown8, hs1⟩
  refine wc_at hs1 ?_
  refine wc_seq ?_
  refine wc_seq ?_
  refine wc_plain [(0, .x true), (1, .x true), (2, .x true)] (by kernel_rfl) ?_
  refine ws_l rfl rfl rfl rfl (rd_move rfl) ?_
  refine ws_l rfl rfl rfl rfl (rd_move rfl) ?_
  refine ws_lcmp rfl rfl rfl (rfl) (rfl) (rfl) ?_ ?_
  · intro h24
    refine ws_nil ?_
    refine qe_then ?_
    refine wc_true rfl ?_
    refine wc_skip ?_
    refine qe_then ?_
    refine wc_seq ?_
    refine wc_block ?_
    refine wc_plain [(0, .x true), (1, .x true), (2, .x true), (3, .x true), (4, .x true), (5, .x true), (6, .x true), (7, .x true), (8, .x true), (9, .x true), (10, .x true), (11, .x true), (12, .x true), (13, .x true), (14, .x true), (15, .x true)] (by kernel_rfl) ?_
    refine ws_l rfl rfl rfl rfl (rd_move rfl) ?_
    refine ws_l rfl rfl rfl rfl (rd_move rfl) ?_
    refine ws_l rfl rfl rfl rfl (rd_move rfl) ?_
    refine ws_l rfl rfl rfl rfl (rd_arith (((hs.length : Nat) : Int) - 1) rfl rfl rfl (wrap_i64 _ (by omega) (by omega))) ?_
    refine ws_l rfl rfl rfl rfl (rd_move rfl) ?_
    refine ws_l rfl rfl rfl rfl (rd_arith (((hs.length - 1 - j : Nat) : Int)) rfl rfl rfl (by rw [wrap_i64 _ (by omega) (by omega)]; omega)) ?_
    refine ws_l rfl rfl rfl rfl (rd_move rfl) ?_
    refine ws_l rfl rfl rfl rfl (rd_conv rfl (run_conv_int ((tn.toNat : Nat) : Int) Try.underlying5 Try.underlying3 (wrap_i64 _ (by omega) (by have := tn.toNat_lt; omega)))) ?_
    refine ws_l rfl rfl rfl rfl (rd_arith ((hs.length - 1 - j + tn.toNat : Nat) : Int) rfl rfl rfl (by have := tn.toNat_lt; rw [wrap_i64 _ (by omega) (by omega)]; omega)) ?_
    refine ws_l rfl rfl rfl rfl (rd_move rfl) ?_
    refine ws_l rfl rfl rfl rfl (rd_rem (((hs.length - 1 - j + tn.toNat) % hs.length : Nat) : Int) rfl rfl (by simp only [cmpP] at h24; omega) (by rw [Int.tmod_eq_emod_of_nonneg (by omega)]; rfl)) ?_
    have hjl : j < hs.length := by simp only [cmpP] at h24; omega
    obtain ⟨bx, ox, cx, csx, Ex, frx, rfl, hmx, hcx⟩ := Src.opened hrs0 (by omega)
    have hmix : HM bx (.cells csx Ex frx) (ν4 ++ (νg ++ φ)) := ⟨hmx⟩
    have hmod : (hs.length - 1 - j + tn.toNat) % hs.length < hs.length := Nat.mod_lt _ (by omega)
    obtain ⟨x, hx⟩ := at_ex (l := hs) hmod
    have hzx : ((hs.drop (tn.toNat % hs.length) ++ hs.take (tn.toNat % hs.length)).reverse)[j]? = some x := by rw [turn_at hs tn.toNat j hjl]; exact hx
    have atx : AtW csx (ox + ((hs.length - 1 - j + tn.toNat) % hs.length) * 83) x.r x.g := at_w hcx hx
    refine ws_l rfl rfl rfl rfl (rd_index (ox + ((hs.length - 1 - j + tn.toNat) % hs.length) * 83) rfl rfl Try.underlying23 Try.sizeOf43 ⟨by omega, by omega⟩ (by rw [Int.toNat_natCast])) ?_
    refine ws_l rfl rfl rfl rfl (rd_load rfl) ?_
    refine ws_buildSlice rfl rfl rfl rfl ?_
    intro b40 hb40
    refine ws_append rfl rfl rfl rfl rfl hown8 (by simp [rowC_size]) (rowC_one _ _) (by simp only [maxLen, List.length_take]; omega) (by rw [List.length_take]; omega) (fun _ _ _ h => by first | (cases h; done) | (simp only [List.mem_append, List.mem_cons] at h ⊢; grind) | skip) ?_
    intro v8' ν8' hown8'
    refine ws_l rfl rfl rfl rfl (rd_assign rfl) ?_
    refine ws_nil ?_
    refine qe_block ?_
    refine qe_then ?_
    refine wc_plain [(0, .x true), (1, .x true), (2, .x true)] (by kernel_rfl) ?_
    refine ws_l rfl rfl rfl rfl (rd_move rfl) ?_
    refine ws_l rfl rfl rfl rfl (rd_arith (((j + 1 : Nat) : Int)) rfl rfl rfl (by rw [wrap_i64 _ (by omega) (by omega)]; omega)) ?_
    refine ws_l rfl rfl rfl rfl (rd_assign rfl) ?_
    refine ws_nil ?_
    exact qe_loop fun ac2 w2 hs2 => ⟨_, by omega, j + 1, v8', ν8', rfl, (by omega), (by rw [take_at hzx]; exact Row.app (enc := hrL) (ys := [x]) hown8' rfl (by simp)), st_sub hs2 _ rfl⟩
  · intro h24
    refine ws_nil ?_
    refine qe_then ?_
    refine wc_false rfl ?_
    refine wc_exit ?_
    refine qe_then_exit ?_
    refine qe_then_exit ?_
    refine qe_block_exit ?_
    refine qe_then ?_
    refine wc_keep [(5, _), (8, _)] rfl ?_
    refine wc_seq ?_
    refine wc_plain [(0, .x true), (1, .x true), (2, .x true), (3, .x true), (4, .x true), (5, .x true), (6, .x true)] (by kernel_rfl) ?_
    refine ws_l rfl rfl rfl rfl (rd_move rfl) ?_
    have hjn : j = hs.length := by simp only [cmpP] at h24; omega
    obtain ⟨ys, hys⟩ : ∃ ys, ys = ((hs.drop (tn.toNat % hs.length) ++ hs.take (tn.toNat % hs.length)).reverse) := ⟨_, rfl⟩
    have hyp : ys.Perm hs := by rw [hys]; exact turn_perm _ _
    have hyl := hyp.length_eq
    rw [hjn, ← hys, List.take_of_length_le (by omega)] at hown8
    have hpm2 : (ys.map HR.r).Perm (l.take 24) := by rw [← hrows]; exact hyp.map _
    have hy8 := hown8.src
    refine ws_call rfl rfl rfl rfl rfl (En.go) (fun w hp hn ho => ends_ret v4 _ hs (hrsrc.mono (fun q hq => List.mem_append_right _ hq)) (by omega) (fun x hx => (hrg x hx).mono (fun q hq => List.mem_append_right _ hq)) w (hp.mono (SubH.mem (η' := ν8 ++ (ν4 ++ (νg ++ φ))))) (SubH.nd (η' := ν8 ++ (ν4 ++ (νg ++ φ))) hn)) (fun _ h => by cases h) (fun hh q h => by first | (cases h; done) | exact hh q h) ?_
    rintro v44 wa wb hpo hon hon2 hp1 ⟨g10, ν10, rfl, hown10, hν10⟩
    refine ⟨ν10, hν10, hown10.nd, fun b hb => .inl (hown10.far b hb), ?_⟩
    replace hown10 := hown10.mono hon.size
    rw [hrows] at hown10
    rw [hrows]
    refine ws_l rfl rfl rfl rfl (rd_move rfl) ?_
    refine ws_l rfl rfl rfl rfl (rd_extract rfl) ?_
    refine ws_l rfl rfl rfl rfl (rd_extract rfl) ?_
    refine ws_l rfl rfl rfl rfl (rd_assign rfl) ?_
    refine ws_l rfl rfl rfl rfl (rd_assign rfl) ?_
    refine ws_nil ?_
    refine qe_then ?_
    refine wc_keep [(8, _), (10, _), (11, _)] rfl ?_
    refine wc_seq ?_
    refine wc_plain [(0, .x true), (1, .x true), (2, .x true), (3, .x true), (4, .x true), (5, .x true), (6, .x true)] (by kernel_rfl) ?_
    refine ws_l rfl rfl rfl rfl (rd_move rfl) ?_
    refine ws_call rfl rfl rfl rfl rfl (En.go) (fun w hp hn ho => ends_ret v8 _ ys (hy8.mono (fun q hq => List.mem_append_left _ hq)) (by omega) (fun x hx => (hrg x (hyp.mem_iff.1 hx)).mono (fun q hq => List.mem_append_right _ hq)) w (hp.mono (SubH.mem (η' := ν8 ++ (ν4 ++ (νg ++ φ))))) (SubH.nd (η' := ν8 ++ (ν4 ++ (νg ++ φ))) hn)) (fun _ h => by cases h) (fun hh q h => by first | (cases h; done) | exact hh q h) ?_
    rintro v49 wa wb hpo hon hon2 hp1 ⟨g12, ν12, rfl, hown12, hν12⟩
    refine ⟨ν12, hν12, hown12.nd, fun b hb => .inl (hown12.far b hb), ?_⟩
    replace hown12 := hown12.mono hon.size
    have hEE := ends_perm hpm2
    rw [show endsI (ys.map HR.r) (fun id => !wdB (ys.map HR.r) id) = endsI (l.take 24) (fun id => !wdB (l.take 24) id) from hEE] at hown12
    refine ws_l rfl rfl rfl rfl (rd_move rfl) ?_
    refine ws_l rfl rfl rfl rfl (rd_extract rfl) ?_
    refine ws_l rfl rfl rfl rfl (rd_extract rfl) ?_
    refine ws_l rfl rfl rfl rfl (rd_assign rfl) ?_
    refine ws_l rfl rfl rfl rfl (rd_assign rfl) ?_
    refine ws_nil ?_
    refine qe_then ?_
    refine wc_keep [(10, _), (11, _), (12, _), (13, _)] rfl ?_
    refine wc_seq ?_
    refine wc_seq ?_
    refine wc_plain [(0, .x true), (1, .x true), (2, .x true), (3, .x true), (4, .x true), (5, .x true), (6, .x true), (7, .x true), (8, .x true), (9, .x true), (10, .x true), (11, .x true)] (by kernel_rfl) ?_
    refine ws_l rfl rfl rfl rfl (rd_move rfl) ?_
    by_cases hchk : chkE (l.take 24) = 0
    ·
      refine ws_l rfl rfl rfl rfl (rd_cmp_t rfl rfl rfl (by simp only [cmpP]; omega)) ?_
      refine ws_l rfl rfl rfl rfl (rd_move rfl) ?_
      refine ws_l rfl rfl rfl rfl (rd_cmp_t rfl rfl rfl (by simp only [cmpP]; exact (chk_perm hpm2).2 hchk)) ?_
      refine ws_l rfl rfl rfl rfl (rd_bneq rfl rfl Try.underlying4 rfl) ?_
      refine ws_l rfl rfl rfl rfl (rd_move rfl) ?_
      refine ws_l rfl rfl rfl rfl (rd_move rfl) ?_
      refine ws_l rfl rfl rfl rfl (rd_lenO hown10 rfl Try.underlying26) ?_
      refine ws_l rfl rfl rfl rfl (rd_move rfl) ?_
      refine ws_l rfl rfl rfl rfl (rd_lenO hown12 rfl Try.underlying26) ?_
      refine ws_l rfl rfl rfl rfl (rd_cmp_f rfl rfl rfl (by simp [cmpP])) ?_
      refine ws_l rfl rfl rfl rfl (rd_pick_f rfl rfl) ?_
      refine ws_nil ?_
      refine qe_then ?_
      refine wc_keep [(10, _), (12, _), (63, _)] rfl ?_
      refine wc_false rfl ?_
      refine wc_skip ?_
      refine qe_then ?_
      refine wc_seq ?_
      refine wc_seq ?_
      refine wc_plain [(0, .x true)] (by kernel_rfl) ?_
      refine ws_l rfl rfl rfl rfl (rd_assign rfl) ?_
      refine ws_nil ?_
      refine qe_then ?_
      refine wc_block ?_
      refine wc_loop (fun mz ac w1 => ∃ (j : Nat), mz = (endsI (l.take 24) (fun id => !wdB (l.take 24) id)).length - j ∧ (j ≤ (endsI (l.take 24) (fun id => !wdB (l.take 24) id)).length) ∧ St 80 w [] [(10, g10.v), (12, g12.v), (14, I j)] (ν10 ++ ν12) ac w1) _ (fun ac w1 hs => ⟨0, rfl, (by omega), st_sub hs _ rfl⟩) ?_
      rintro _ ac2 wl2 ⟨j, rfl, hj, hs2⟩
      refine wc_at hs2 ?_
      have hel : (endsI (l.take 24) (fun id => !wdB (l.take 24) id)).length ≤ (l.take 24).length := endsF_len _ _
      refine wc_seq ?_
      refine wc_seq ?_
      refine wc_plain [(0, .x true), (1, .x true), (2, .x true), (3, .x true)] (by kernel_rfl) ?_
      refine ws_l rfl rfl rfl rfl (rd_move rfl) ?_
      refine ws_l rfl rfl rfl rfl (rd_move rfl) ?_
      refine ws_l rfl rfl rfl rfl (rd_lenO hown10 rfl Try.underlying26) ?_
      refine ws_lcmp rfl rfl rfl (rfl) (rfl) (rfl) ?_ ?_
      · intro h67
        refine ws_nil ?_
        refine qe_then ?_
        refine wc_true rfl ?_
        refine wc_skip ?_
        refine qe_then ?_
        refine wc_seq ?_
        refine wc_block ?_
        refine wc_seq ?_
        refine wc_drawn mixedT _ (fun _ h => h) [(0, .r), (1, .r), (2, .r), (3, .r), (4, .r), (5, .r), (6, .r), (7, .r), (8, .x true)] (by kernel_rfl) ?_
        refine ws_r rfl rfl rfl rfl (rd_move rfl) ?_
        refine ws_r rfl rfl rfl rfl (rd_move rfl) ?_
        obtain ⟨b10, o10, c10, cs10, E10, fr10, hv10, hm10, hc10⟩ := Src.opened hown10.src (by omega)
        have hmi10 : HM b10 (.cells cs10 E10 fr10) ν10 := ⟨hm10⟩
        obtain ⟨x, hx⟩ := at_ex (l := endsI (l.take 24) (fun id => !wdB (l.take 24) id)) (j := j) (by omega)
        have at10 : ReadsAt Try.prog 38 cs10 (o10 + j * 32) (idK x) := ids_src hc10 hx
        rw [hv10]
        refine ws_r rfl rfl rfl rfl (rd_index (o10 + j * 32) rfl rfl Try.underlying26 Try.sizeOf38 ⟨by omega, by omega⟩ (by simp)) ?_
        refine ws_r rfl rfl rfl rfl (rd_load rfl) ?_
        refine ws_r rfl rfl rfl rfl (rd_move rfl) ?_
        refine ws_r rfl rfl rfl rfl (rd_move rfl) ?_
        obtain ⟨b12, o12, c12, cs12, E12, fr12, hv12, hm12, hc12⟩ := Src.opened hown12.src (by omega)
        have hmi12 : HM b12 (.cells cs12 E12 fr12) ν12 := ⟨hm12⟩
        have at12 : ReadsAt Try.prog 38 cs12 (o12 + j * 32) (idK x) := ids_src hc12 hx
        rw [hv12]
        refine ws_r rfl rfl rfl rfl (rd_index (o12 + j * 32) rfl rfl Try.underlying26 Try.sizeOf38 ⟨by omega, by omega⟩ (by simp)) ?_
        refine ws_r rfl rfl rfl rfl (rd_load rfl) ?_
        refine ws_late rfl ?_
        refine ws_l rfl rfl rfl rfl (rd_neid_f rfl rfl Try.underlying38 (by kernel_rfl) rfl) ?_
        refine ws_nil ?_
        refine qe_then ?_
        refine wc_false rfl ?_
        refine wc_skip ?_
        refine qe_block ?_
        refine qe_then ?_
        refine wc_plain [(0, .x true), (1, .x true), (2, .x true)] (by kernel_rfl) ?_
        refine ws_l rfl rfl rfl rfl (rd_move rfl) ?_
        refine ws_l rfl rfl rfl rfl (rd_arith (((j + 1 : Nat) : Int)) rfl rfl rfl (by rw [wrap_i64 _ (by omega) (by omega)]; omega)) ?_
        refine ws_l rfl rfl rfl rfl (rd_assign rfl) ?_
        refine ws_nil ?_
        exact qe_loop fun ac2 w2 hs2 => ⟨_, by omega, j + 1, rfl, (by omega), st_sub hs2 _ rfl⟩
      · intro h67
        refine ws_nil ?_
        refine qe_then ?_
        refine wc_false rfl ?_
        refine wc_exit ?_
        refine qe_then_exit ?_
        refine qe_then_exit ?_
        refine qe_block_exit ?_
        refine qe_then ?_
        refine wc_keep [] rfl ?_
        refine wc_seq ?_
        refine wc_plain [(0, .x true), (1, .x true)] (by kernel_rfl) ?_
        refine ws_callp rfl rfl rfl rfl rfl (En.go) (fun w hp hn ho => known_ret w) ?_
        refine ws_l rfl rfl rfl rfl (rd_assign rfl) ?_
        refine ws_nil ?_
        refine qe_then ?_
        refine wc_ret ?_
        refine qe_body _ (.inl rfl) (res1 rfl (RV.tmp rfl)) ?_
        exact ret_end fun w hp hn ho => rfl
    ·
      refine ws_l rfl rfl rfl rfl (rd_cmp_f rfl rfl rfl (by simp only [cmpP]; omega)) ?_
      refine ws_l rfl rfl rfl rfl (rd_move rfl) ?_
      refine ws_l rfl rfl rfl rfl (rd_cmp_f rfl rfl rfl (by simp only [cmpP]; exact fun h => hchk ((chk_perm hpm2).1 h))) ?_
      refine ws_l rfl rfl rfl rfl (rd_bneq rfl rfl Try.underlying4 rfl) ?_
      refine ws_l rfl rfl rfl rfl (rd_move rfl) ?_
      refine ws_l rfl rfl rfl rfl (rd_move rfl) ?_
      refine ws_l rfl rfl rfl rfl (rd_lenO hown10 rfl Try.underlying26) ?_
      refine ws_l rfl rfl rfl rfl (rd_move rfl) ?_
      refine ws_l rfl rfl rfl rfl (rd_lenO hown12 rfl Try.underlying26) ?_
      refine ws_l rfl rfl rfl rfl (rd_cmp_f rfl rfl rfl (by simp [cmpP])) ?_
      refine ws_l rfl rfl rfl rfl (rd_pick_f rfl rfl) ?_
      refine ws_nil ?_
      refine qe_then ?_
      refine wc_keep [(10, _), (12, _), (63, _)] rfl ?_
      refine wc_false rfl ?_
      refine wc_skip ?_
      refine qe_then ?_
      refine wc_seq ?_
      refine wc_seq ?_
      refine wc_plain [(0, .x true)] (by kernel_rfl) ?_
      refine ws_l rfl rfl rfl rfl (rd_assign rfl) ?_
      refine ws_nil ?_
      refine qe_then ?_
      refine wc_block ?_
      refine wc_loop (fun mz ac w1 => ∃ (j : Nat), mz = (endsI (l.take 24) (fun id => !wdB (l.take 24) id)).length - j ∧ (j ≤ (endsI (l.take 24) (fun id => !wdB (l.take 24) id)).length) ∧ St 80 w [] [(10, g10.v), (12, g12.v), (14, I j)] (ν10 ++ ν12) ac w1) _ (fun ac w1 hs => ⟨0, rfl, (by omega), st_sub hs _ rfl⟩) ?_
      rintro _ ac3 wl3 ⟨j, rfl, hj, hs3⟩
      refine wc_at hs3 ?_
      have hel : (endsI (l.take 24) (fun id => !wdB (l.take 24) id)).length ≤ (l.take 24).length := endsF_len _ _
      refine wc_seq ?_
      refine wc_seq ?_
      refine wc_plain [(0, .x true), (1, .x true), (2, .x true), (3, .x true)] (by kernel_rfl) ?_
      refine ws_l rfl rfl rfl rfl (rd_move rfl) ?_
      refine ws_l rfl rfl rfl rfl (rd_move rfl) ?_
      refine ws_l rfl rfl rfl rfl (rd_lenO hown10 rfl Try.underlying26) ?_
      refine ws_lcmp rfl rfl rfl (rfl) (rfl) (rfl) ?_ ?_
      · intro h67
        refine ws_nil ?_
        refine qe_then ?_
        refine wc_true rfl ?_
        refine wc_skip ?_
        refine qe_then ?_
        refine wc_seq ?_
        refine wc_block ?_
        refine wc_seq ?_
        refine wc_drawn mixedT _ (fun _ h => h) [(0, .r), (1, .r), (2, .r), (3, .r), (4, .r), (5, .r), (6, .r), (7, .r), (8, .x true)] (by kernel_rfl) ?_
        refine ws_r rfl rfl rfl rfl (rd_move rfl) ?_
        refine ws_r rfl rfl rfl rfl (rd_move rfl) ?_
        obtain ⟨b10, o10, c10, cs10, E10, fr10, hv10, hm10, hc10⟩ := Src.opened hown10.src (by omega)
        have hmi10 : HM b10 (.cells cs10 E10 fr10) ν10 := ⟨hm10⟩
        obtain ⟨x, hx⟩ := at_ex (l := endsI (l.take 24) (fun id => !wdB (l.take 24) id)) (j := j) (by omega)
        have at10 : ReadsAt Try.prog 38 cs10 (o10 + j * 32) (idK x) := ids_src hc10 hx
        rw [hv10]
        refine ws_r rfl rfl rfl rfl (rd_index (o10 + j * 32) rfl rfl Try.underlying26 Try.sizeOf38 ⟨by omega, by omega⟩ (by simp)) ?_
        refine ws_r rfl rfl rfl rfl (rd_load rfl) ?_
        refine ws_r rfl rfl rfl rfl (rd_move rfl) ?_
        refine ws_r rfl rfl rfl rfl (rd_move rfl) ?_
        obtain ⟨b12, o12, c12, cs12, E12, fr12, hv12, hm12, hc12⟩ := Src.opened hown12.src (by omega)
        have hmi12 : HM b12 (.cells cs12 E12 fr12) ν12 := ⟨hm12⟩
        have at12 : ReadsAt Try.prog 38 cs12 (o12 + j * 32) (idK x) := ids_src hc12 hx
        rw [hv12]
        refine ws_r rfl rfl rfl rfl (rd_index (o12 + j * 32) rfl rfl Try.underlying26 Try.sizeOf38 ⟨by omega, by omega⟩ (by simp)) ?_
        refine ws_r rfl rfl rfl rfl (rd_load rfl) ?_
        refine ws_late rfl ?_
        refine ws_l rfl rfl rfl rfl (rd_neid_f rfl rfl Try.underlying38 (by kernel_rfl) rfl) ?_
        refine ws_nil ?_
        refine qe_then ?_
        refine wc_false rfl ?_
        refine wc_skip ?_
        refine qe_block ?_
        refine qe_then ?_
        refine wc_plain [(0, .x true), (1, .x true), (2, .x true)] (by kernel_rfl) ?_
        refine ws_l rfl rfl rfl rfl (rd_move rfl) ?_
        refine ws_l rfl rfl rfl rfl (rd_arith (((j + 1 : Nat) : Int)) rfl rfl rfl (by rw [wrap_i64 _ (by omega) (by omega)]; omega)) ?_
        refine ws_l rfl rfl rfl rfl (rd_assign rfl) ?_
        refine ws_nil ?_
        exact qe_loop fun ac2 w2 hs2 => ⟨_, by omega, j + 1, rfl, (by omega), st_sub hs2 _ rfl⟩
      · intro h67
        refine ws_nil ?_
        refine qe_then ?_
        refine wc_false rfl ?_
        refine wc_exit ?_
        refine qe_then_exit ?_
        refine qe_then_exit ?_
        refine qe_block_exit ?_
        refine qe_then ?_
        refine wc_keep [] rfl ?_
        refine wc_seq ?_
        refine wc_plain [(0, .x true), (1, .x true)] (by kernel_rfl) ?_
        refine ws_callp rfl rfl rfl rfl rfl (En.go) (fun w hp hn ho => known_ret w) ?_
        refine ws_l rfl rfl rfl rfl (rd_assign rfl) ?_
        refine ws_nil ?_
        refine qe_then ?_
        refine wc_ret ?_
        refine qe_body _ (.inl rfl) (res1 rfl (RV.tmp rfl)) ?_
        exact ret_end fun w hp hn ho => rfl

end Go.Proofs.Ytaagmgpfpaanlaa
