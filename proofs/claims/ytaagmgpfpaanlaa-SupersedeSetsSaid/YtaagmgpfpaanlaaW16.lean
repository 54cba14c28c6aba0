/- Walk: SupersedeOne. No conditions. -/
import Derived.Test.YtaagmgpfpaanlaaW15
namespace Go.Proofs.Ytaagmgpfpaanlaa
open Go Go.RowKit Go.Sx
set_option linter.unusedSimpArgs false
set_option linter.unusedVariables false

theorem at_inj {l : List RR} (hn : (l.map RR.id).Nodup) {i j : Nat} {x y : RR} (hx : l[i]? = some x) (hy : l[j]? = some y) (h : x.id = y.id) : i = j := by
  have hi := (List.getElem?_eq_some_iff.1 hx).1
  have hx2 : (l.map RR.id)[i]? = some x.id := by simp [hx]
  have hy2 : (l.map RR.id)[j]? = some x.id := by simp [hy, h]
  exact (List.getElem?_inj (by simpa using hi) hn).1 (hx2.trans hy2.symm)
set_option maxRecDepth 100000 in
set_option maxHeartbeats 4000000 in
theorem supersedeOne_ret (v : Value) (φ : Heap) (l : List RR) (hsrc : Src φ v 82 l.length (l.flatMap rrL)) (hcap : CapOK v l.length) (w : World) (hφ : HpOK φ w) (hnd : (φ.map Prod.fst).Nodup) : Ret Try.prog 6 [v] w [] (fun u _ => u = .bool true) := by
  refine enter (n := 96) (args := [v]) [] φ Try.func6 rfl rfl rfl hφ hnd ?_
  refine wc_seq ?_
  refine wc_plain [(0, .x true)] (by kernel_rfl) ?_
  refine ws_l rfl rfl rfl rfl (rd_assign rfl) ?_
  refine ws_nil ?_
  refine qe_then ?_
  refine wc_seq ?_
  refine wc_plain [(0, .x true), (1, .x true), (2, .x true), (3, .x true), (4, .x true), (5, .x true), (6, .x true)] (by kernel_rfl) ?_
  refine ws_l rfl rfl rfl rfl (rd_move rfl) ?_
  refine ws_call rfl rfl rfl rfl rfl (En.go) (fun w hp hn ho => rows_law v φ l hsrc hcap w (hp.mono SubH.mem) hnd) (fun _ h => by cases h) (fun hh q h => by first | (cases h; done) | exact hh q h) ?_
  rintro v13 wa wb hpo hon hon2 hp1 ⟨hs, v4, u10, ν4, νg, rfl, hrows, hrp, hrn, hrf, hrown, hrgs, hu10, hc10⟩
  refine ⟨ν4 ++ νg, hrp, hrn, fun b hb => .inl (hrf b hb), ?_⟩
  have hl24 : (l.take 24).length ≤ 24 := by rw [List.length_take]; omega
  have hsl : hs.length = (l.take 24).length := by rw [← hrows, List.length_map]
  replace hrown := hrown.mono hon.size
  rw [List.append_assoc]
  have hrsrc : Src (ν4 ++ (νg ++ φ)) v4 83 hs.length (hs.flatMap hrL) := hrown.src.mono (fun q hq => List.mem_append_left _ hq)
  have hrg : ∀ x ∈ hs, GOK (ν4 ++ (νg ++ φ)) x.g x.r.grp := fun x hx => (hrgs x hx).mono (fun q hq => List.mem_append_right _ (List.mem_append_left _ hq))
  refine ws_l rfl rfl rfl rfl (rd_move rfl) ?_
  refine ws_l rfl rfl rfl rfl (rd_extract rfl) ?_
  refine ws_l rfl rfl rfl rfl (rd_extract rfl) ?_
  refine ws_l rfl rfl rfl rfl (rd_assign rfl) ?_
  refine ws_l rfl rfl rfl rfl (rd_assign rfl) ?_
  refine ws_nil ?_
  refine qe_then ?_
  refine wc_keep [(2, _), (3, _), (4, _)] rfl ?_
  refine wc_seq ?_
  refine wc_seq ?_
  refine wc_plain [(0, .x true), (1, .x true)] (by kernel_rfl) ?_
  refine ws_callp rfl rfl rfl rfl rfl (En.go) (fun w hp hn ho => known_ret w) ?_
  refine ws_l rfl rfl rfl rfl (rd_not rfl) ?_
  refine ws_nil ?_
  refine qe_then ?_
  refine wc_false rfl ?_
  refine wc_skip ?_
  refine qe_then ?_
  refine wc_seq ?_
  refine wc_plain [(0, .x true), (1, .x true), (2, .x true), (3, .x true), (4, .x true), (5, .x true), (6, .x true)] (by kernel_rfl) ?_
  refine ws_l rfl rfl rfl rfl (rd_move rfl) ?_
  refine ws_call rfl rfl rfl rfl rfl (En.go) (fun w hp hn ho => set_law v4 (ν4 ++ (νg ++ φ)) hs hrsrc (by omega) hrg w (hp.mono SubH.mem) (SubH.nd hn)) (fun _ h => by cases h) (fun hh q h => by first | (cases h; done) | exact hh q h) ?_
  rintro v20 wa wb hpo hon hon2 hp1 ⟨s0, okb, own0, rfl, hsn, hso⟩
  obtain ⟨p, m, k, es, c, ws, d, L, W, νs, rfl, hset, hsnd, hsfar, hL, hW, hok⟩ := hsn
  refine ⟨_, hset, hsnd, fun b hb => .inl (hsfar b hb), ?_⟩
  simp only [List.cons_append]
  have hpb := Nat.le_trans hon.size (hsfar p (by simp))
  have hmb := Nat.le_trans hon.size (hsfar m (by simp))
  have hkb := Nat.le_trans hon.size (hsfar k (by simp))
  have hsnf : ∀ b ∈ νs.map Prod.fst, _ ≤ b := fun b hb => Nat.le_trans hon.size (hsfar b (by simp only [List.map_cons, List.mem_cons]; exact .inr (.inr (.inr hb))))
  cases okb
  ·
    refine ws_l rfl rfl rfl rfl (rd_move rfl) ?_
    refine ws_l rfl rfl rfl rfl (rd_extract rfl) ?_
    refine ws_l rfl rfl rfl rfl (rd_extract rfl) ?_
    refine ws_l rfl rfl rfl rfl (rd_assign rfl) ?_
    refine ws_l rfl rfl rfl rfl (rd_assign rfl) ?_
    refine ws_nil ?_
    refine qe_then ?_
    refine wc_keep [(2, _), (4, _), (5, _), (6, _)] rfl ?_
    refine wc_seq ?_
    refine wc_seq ?_
    refine wc_plain [(0, .x true)] (by kernel_rfl) ?_
    refine ws_l rfl rfl rfl rfl (rd_assign rfl) ?_
    refine ws_nil ?_
    refine qe_then ?_
    refine wc_block ?_
    refine wc_loop (fun mz ac w1 => ∃ (i : Nat), mz = (l.take 24).length - i ∧ (i ≤ (l.take 24).length) ∧ St 96 w [] [(4, u10), (5, ptr p), (6, .bool false), (7, I i)] (setC p m k es c ws d (νs ++ (ν4 ++ (νg ++ φ)))) ac w1) _ (fun ac w1 hs => ⟨0, rfl, (by omega), st_sub hs _ rfl⟩) ?_
    rintro _ ac1 wl1 ⟨i, rfl, hi, hs1⟩
    refine wc_at hs1 ?_
    refine wc_seq ?_
    refine wc_seq ?_
    refine wc_plain [(0, .x true), (1, .x true), (2, .x true), (3, .x true), (4, .x true), (5, .x true), (6, .x true)] (by kernel_rfl) ?_
    refine ws_l rfl rfl rfl rfl (rd_move rfl) ?_
    refine ws_l rfl rfl rfl rfl (rd_move rfl) ?_
    refine ws_l rfl rfl rfl rfl (rd_lenS hu10 rfl Try.underlying22) ?_
    refine ws_lcmp rfl rfl rfl (rfl) (rfl) (rfl) ?_ ?_
    · intro h26
      refine ws_l rfl rfl rfl rfl (rd_move rfl) ?_
      refine ws_l rfl rfl rfl rfl (rd_move rfl) ?_
      refine ws_l rfl rfl rfl rfl (rd_pick_t rfl rfl) ?_
      refine ws_nil ?_
      refine qe_then ?_
      refine wc_false rfl ?_
      refine wc_exit ?_
      refine qe_then_exit ?_
      refine qe_then_exit ?_
      refine qe_block_exit ?_
      refine qe_then ?_
      refine wc_keep [] rfl ?_
      refine wc_seq ?_
      refine wc_plain [(0, .x true)] (by kernel_rfl) ?_
      refine ws_l rfl rfl rfl rfl (rd_assign rfl) ?_
      refine ws_nil ?_
      refine qe_then ?_
      refine wc_ret ?_
      refine qe_body _ (.inl rfl) (res1 rfl (RV.tmp rfl)) ?_
      exact ret_end fun w hp hn ho => rfl
    · intro h26
      refine ws_l rfl rfl rfl rfl (rd_move rfl) ?_
      refine ws_xskip rfl rfl rfl rfl ?_
      refine ws_l rfl rfl rfl rfl (rd_pick_f rfl rfl) ?_
      refine ws_nil ?_
      refine qe_then ?_
      refine wc_false rfl ?_
      refine wc_exit ?_
      refine qe_then_exit ?_
      refine qe_then_exit ?_
      refine qe_block_exit ?_
      refine qe_then ?_
      refine wc_keep [] rfl ?_
      refine wc_seq ?_
      refine wc_plain [(0, .x true)] (by kernel_rfl) ?_
      refine ws_l rfl rfl rfl rfl (rd_assign rfl) ?_
      refine ws_nil ?_
      refine qe_then ?_
      refine wc_ret ?_
      refine qe_body _ (.inl rfl) (res1 rfl (RV.tmp rfl)) ?_
      exact ret_end fun w hp hn ho => rfl
  ·
    obtain rfl := (hso rfl).trans hrows
    refine ws_l rfl rfl rfl rfl (rd_move rfl) ?_
    refine ws_l rfl rfl rfl rfl (rd_extract rfl) ?_
    refine ws_l rfl rfl rfl rfl (rd_extract rfl) ?_
    refine ws_l rfl rfl rfl rfl (rd_assign rfl) ?_
    refine ws_l rfl rfl rfl rfl (rd_assign rfl) ?_
    refine ws_nil ?_
    refine qe_then ?_
    refine wc_keep [(2, _), (4, _), (5, _), (6, _)] rfl ?_
    refine wc_seq ?_
    refine wc_seq ?_
    refine wc_plain [(0, .x true)] (by kernel_rfl) ?_
    refine ws_l rfl rfl rfl rfl (rd_assign rfl) ?_
    refine ws_nil ?_
    refine qe_then ?_
    refine wc_block ?_
    refine wc_loop (fun mz ac w1 => ∃ (i : Nat), mz = (l.take 24).length - i ∧ (i ≤ (l.take 24).length) ∧ St 96 w [] [(4, u10), (5, ptr p), (6, .bool true), (7, I i)] (setC p m k es c ws d (νs ++ (ν4 ++ (νg ++ φ)))) ac w1) _ (fun ac w1 hs => ⟨0, rfl, (by omega), st_sub hs _ rfl⟩) ?_
    rintro _ ac2 wl2 ⟨i, rfl, hi, hs2⟩
    refine wc_at hs2 ?_
    refine wc_seq ?_
    refine wc_seq ?_
    refine wc_plain [(0, .x true), (1, .x true), (2, .x true), (3, .x true), (4, .x true), (5, .x true), (6, .x true)] (by kernel_rfl) ?_
    refine ws_l rfl rfl rfl rfl (rd_move rfl) ?_
    refine ws_l rfl rfl rfl rfl (rd_move rfl) ?_
    refine ws_l rfl rfl rfl rfl (rd_lenS hu10 rfl Try.underlying22) ?_
    refine ws_lcmp rfl rfl rfl (rfl) (rfl) (rfl) ?_ ?_
    · intro h26
      refine ws_l rfl rfl rfl rfl (rd_move rfl) ?_
      refine ws_l rfl rfl rfl rfl (rd_move rfl) ?_
      refine ws_l rfl rfl rfl rfl (rd_pick_t rfl rfl) ?_
      refine ws_nil ?_
      refine qe_then ?_
      refine wc_true rfl ?_
      refine wc_skip ?_
      refine qe_then ?_
      refine wc_seq ?_
      refine wc_block ?_
      refine wc_seq ?_
      refine wc_plain [(0, .x true)] (by kernel_rfl) ?_
      refine ws_l rfl rfl rfl rfl (rd_assign rfl) ?_
      refine ws_nil ?_
      refine qe_then ?_
      refine wc_block ?_
      refine wc_loop (fun mz ac w1 => ∃ (q : Nat), mz = i - q ∧ (q ≤ i) ∧ St 96 w [] [(4, u10), (5, ptr p), (6, .bool true), (7, I i), (8, I q)] (setC p m k es c ws d (νs ++ (ν4 ++ (νg ++ φ)))) ac w1) _ (fun ac w1 hs => ⟨0, rfl, (by omega), st_sub hs _ rfl⟩) ?_
      rintro _ ac3 wl3 ⟨q, rfl, hq, hs3⟩
      refine wc_at hs3 ?_
      refine wc_seq ?_
      refine wc_seq ?_
      refine wc_plain [(0, .x true), (1, .x true), (2, .x true)] (by kernel_rfl) ?_
      refine ws_l rfl rfl rfl rfl (rd_move rfl) ?_
      refine ws_l rfl rfl rfl rfl (rd_move rfl) ?_
      refine ws_lcmp rfl rfl rfl (rfl) (rfl) (rfl) ?_ ?_
      · intro h34
        refine ws_nil ?_
        refine qe_then ?_
        refine wc_true rfl ?_
        refine wc_skip ?_
        refine qe_then ?_
        refine wc_seq ?_
        refine wc_block ?_
        refine wc_seq ?_
        refine wc_drawnO mixedT _ (fun _ h => h) (.r 0 (.r 1 (.r 2 (.r 3 (.r 4 (.r 5 (.r 6 (.r 7 (.b 8 9 (.seq [(9, .x false), (10, .x false), (11, .x true)]) (.seq [(8, .x false), (10, .x false), (11, .x true)])))))))))) (by kernel_rfl) ?_
        refine od_r ?_
        refine ws_r rfl rfl rfl rfl (rd_move rfl) ?_
        refine od_go ?_
        refine od_r ?_
        refine ws_r rfl rfl rfl rfl (rd_move rfl) ?_
        refine od_go ?_
        refine od_r ?_
        obtain ⟨bv, ov, cv, csv, Ev, frv, rfl, hmv, hcv⟩ := Src.opened hu10 (by omega)
        have hmiv : HM bv (.cells csv Ev frv) φ := ⟨hmv⟩
        obtain ⟨xa, hxa⟩ := at_ex (l := (l.take 24)) (j := i) (by omega)
        have atxa : AtR csv (ov + i * 82) xa := at_r hcv hxa
        refine ws_r rfl rfl rfl rfl (rd_index (ov + i * 82) rfl rfl Try.underlying22 Try.sizeOf46 ⟨by omega, by omega⟩ (by simp)) ?_
        refine od_go ?_
        refine od_r ?_
        refine ws_r rfl rfl rfl rfl (rd_load rfl) ?_
        refine od_go ?_
        refine od_r ?_
        refine ws_r rfl rfl rfl rfl (rd_move rfl) ?_
        refine od_go ?_
        refine od_r ?_
        refine ws_r rfl rfl rfl rfl (rd_move rfl) ?_
        refine od_go ?_
        refine od_r ?_
        obtain ⟨xb, hxb⟩ := at_ex (l := (l.take 24)) (j := q) (by omega)
        have atxb : AtR csv (ov + q * 82) xb := at_r hcv hxb
        refine ws_r rfl rfl rfl rfl (rd_index (ov + q * 82) rfl rfl Try.underlying22 Try.sizeOf46 ⟨by omega, by omega⟩ (by simp)) ?_
        refine od_go ?_
        refine od_r ?_
        refine ws_r rfl rfl rfl rfl (rd_load rfl) ?_
        refine od_go ?_
        refine od_b ?_ ?_
        ·
          refine ws_alloc rfl rfl rfl ?_
          intro b9 hb9
          refine od_go ?_
          refine od_seq ?_
          refine ws_alloc rfl rfl rfl ?_
          intro b10 hb10
          refine ws_store rfl rfl rfl rfl (by first | exact .inl (by assumption) | exact .inr (by simp)) (fun _ h _ => by first | (cases h; done) | exact List.mem_cons_of_mem _ h | exact List.mem_cons_of_mem _ (List.mem_cons_of_mem _ h) | (simp at h ⊢; simp [h])) ?_
          refine ws_late rfl ?_
          refine ws_store rfl rfl rfl rfl (by first | exact .inl (by assumption) | exact .inr (by simp)) (fun _ h _ => by first | (cases h; done) | exact List.mem_cons_of_mem _ h | exact List.mem_cons_of_mem _ (List.mem_cons_of_mem _ h) | (simp at h ⊢; simp [h])) ?_
          refine ws_nil ?_
          refine qe_then ?_
          refine wc_seq ?_
          refine wc_seq ?_
          refine wc_plain [(0, .x true), (1, .x true), (2, .x true), (3, .x true), (4, .x true), (5, .x true), (6, .x true), (7, .x true), (8, .x true), (9, .x true), (10, .x true), (11, .x true), (12, .x true), (13, .x true), (14, .x true), (15, .x true), (16, .x true), (17, .x true), (18, .x true), (19, .x true), (20, .x true), (21, .x true), (22, .x true), (23, .x true), (24, .x true), (25, .x true), (26, .x true), (27, .x true), (28, .x true), (29, .x true), (30, .x true), (31, .x true), (32, .x true), (33, .x true), (34, .x true), (35, .x true), (36, .x true), (37, .x true), (38, .x true)] (by kernel_rfl) ?_
          refine ws_l rfl rfl rfl rfl (rd_fieldAddr rfl) ?_
          refine ws_l rfl rfl rfl rfl (rd_load rfl) ?_
          refine ws_l rfl rfl rfl rfl (rd_fieldAddr rfl) ?_
          refine ws_l rfl rfl rfl rfl (rd_load rfl) ?_
          refine ws_lp _ rfl rfl rfl rfl (rd_neid rfl rfl Try.underlying37 (by kernel_rfl)) ?_ ?_
          · intro h49
            refine ws_l rfl rfl rfl rfl (rd_move rfl) ?_
            refine ws_xskip rfl rfl rfl rfl ?_
            refine ws_xskip rfl rfl rfl rfl ?_
            refine ws_xskip rfl rfl rfl rfl ?_
            refine ws_xskip rfl rfl rfl rfl ?_
            refine ws_l rfl rfl rfl rfl (rd_pick_t rfl rfl) ?_
            refine ws_l rfl rfl rfl rfl (rd_move rfl) ?_
            refine ws_xskip rfl rfl rfl rfl ?_
            refine ws_xskip rfl rfl rfl rfl ?_
            refine ws_xskip rfl rfl rfl rfl ?_
            refine ws_xskip rfl rfl rfl rfl ?_
            refine ws_xskip rfl rfl rfl rfl ?_
            refine ws_l rfl rfl rfl rfl (rd_pick_t rfl rfl) ?_
            refine ws_l rfl rfl rfl rfl (rd_move rfl) ?_
            refine ws_xskip rfl rfl rfl rfl ?_
            refine ws_xskip rfl rfl rfl rfl ?_
            refine ws_xskip rfl rfl rfl rfl ?_
            refine ws_xskip rfl rfl rfl rfl ?_
            refine ws_xskip rfl rfl rfl rfl ?_
            refine ws_l rfl rfl rfl rfl (rd_pick_t rfl rfl) ?_
            refine ws_l rfl rfl rfl rfl (rd_move rfl) ?_
            refine ws_xskip rfl rfl rfl rfl ?_
            refine ws_xskip rfl rfl rfl rfl ?_
            refine ws_xskip rfl rfl rfl rfl ?_
            refine ws_xskip rfl rfl rfl rfl ?_
            refine ws_xskip rfl rfl rfl rfl ?_
            refine ws_l rfl rfl rfl rfl (rd_pick_t rfl rfl) ?_
            refine ws_l rfl rfl rfl rfl (rd_move rfl) ?_
            refine ws_xskip rfl rfl rfl rfl ?_
            refine ws_xskip rfl rfl rfl rfl ?_
            refine ws_xskip rfl rfl rfl rfl ?_
            refine ws_xskip rfl rfl rfl rfl ?_
            refine ws_xskip rfl rfl rfl rfl ?_
            refine ws_l rfl rfl rfl rfl (rd_pick_t rfl rfl) ?_
            refine ws_nil ?_
            refine qe_then ?_
            refine wc_true rfl ?_
            refine wc_exit ?_
            refine qe_then_exit ?_
            refine qe_block_exit ?_
            refine qe_then ?_
            refine wc_plain [(0, .x true), (1, .x true), (2, .x true)] (by kernel_rfl) ?_
            refine ws_l rfl rfl rfl rfl (rd_move rfl) ?_
            refine ws_l rfl rfl rfl rfl (rd_arith (((q + 1 : Nat) : Int)) rfl rfl rfl (by rw [wrap_i64 _ (by omega) (by omega)]; omega)) ?_
            refine ws_l rfl rfl rfl rfl (rd_assign rfl) ?_
            refine ws_nil ?_
            exact qe_loop fun ac2 w2 hs2 => ⟨_, by omega, q + 1, rfl, (by omega), st_sub hs2 _ rfl⟩
          · intro h49
            refine ws_l rfl rfl rfl rfl (rd_move rfl) ?_
            refine ws_l rfl rfl rfl rfl (rd_fieldAddr rfl) ?_
            refine ws_l rfl rfl rfl rfl (rd_load rfl) ?_
            refine ws_l rfl rfl rfl rfl (rd_build rfl) ?_
            refine ws_lp _ rfl rfl rfl rfl (rd_eqid rfl rfl Try.underlying37 (by kernel_rfl)) ?_ ?_
            · intro h54
              refine ws_l rfl rfl rfl rfl (rd_pick_f rfl rfl) ?_
              refine ws_l rfl rfl rfl rfl (rd_move rfl) ?_
              refine ws_xskip rfl rfl rfl rfl ?_
              refine ws_xskip rfl rfl rfl rfl ?_
              refine ws_xskip rfl rfl rfl rfl ?_
              refine ws_xskip rfl rfl rfl rfl ?_
              refine ws_xskip rfl rfl rfl rfl ?_
              refine ws_l rfl rfl rfl rfl (rd_pick_t rfl rfl) ?_
              refine ws_l rfl rfl rfl rfl (rd_move rfl) ?_
              refine ws_xskip rfl rfl rfl rfl ?_
              refine ws_xskip rfl rfl rfl rfl ?_
              refine ws_xskip rfl rfl rfl rfl ?_
              refine ws_xskip rfl rfl rfl rfl ?_
              refine ws_xskip rfl rfl rfl rfl ?_
              refine ws_l rfl rfl rfl rfl (rd_pick_t rfl rfl) ?_
              refine ws_l rfl rfl rfl rfl (rd_move rfl) ?_
              refine ws_xskip rfl rfl rfl rfl ?_
              refine ws_xskip rfl rfl rfl rfl ?_
              refine ws_xskip rfl rfl rfl rfl ?_
              refine ws_xskip rfl rfl rfl rfl ?_
              refine ws_xskip rfl rfl rfl rfl ?_
              refine ws_l rfl rfl rfl rfl (rd_pick_t rfl rfl) ?_
              refine ws_l rfl rfl rfl rfl (rd_move rfl) ?_
              refine ws_xskip rfl rfl rfl rfl ?_
              refine ws_xskip rfl rfl rfl rfl ?_
              refine ws_xskip rfl rfl rfl rfl ?_
              refine ws_xskip rfl rfl rfl rfl ?_
              refine ws_xskip rfl rfl rfl rfl ?_
              refine ws_l rfl rfl rfl rfl (rd_pick_t rfl rfl) ?_
              refine ws_nil ?_
              refine qe_then ?_
              refine wc_true rfl ?_
              refine wc_exit ?_
              refine qe_then_exit ?_
              refine qe_block_exit ?_
              refine qe_then ?_
              refine wc_plain [(0, .x true), (1, .x true), (2, .x true)] (by kernel_rfl) ?_
              refine ws_l rfl rfl rfl rfl (rd_move rfl) ?_
              refine ws_l rfl rfl rfl rfl (rd_arith (((q + 1 : Nat) : Int)) rfl rfl rfl (by rw [wrap_i64 _ (by omega) (by omega)]; omega)) ?_
              refine ws_l rfl rfl rfl rfl (rd_assign rfl) ?_
              refine ws_nil ?_
              exact qe_loop fun ac2 w2 hs2 => ⟨_, by omega, q + 1, rfl, (by omega), st_sub hs2 _ rfl⟩
            · intro h54
              refine ws_l rfl rfl rfl rfl (rd_pick_f rfl rfl) ?_
              refine ws_l rfl rfl rfl rfl (rd_move rfl) ?_
              refine ws_l rfl rfl rfl rfl (rd_fieldAddr rfl) ?_
              refine ws_l rfl rfl rfl rfl (rd_load rfl) ?_
              refine ws_l rfl rfl rfl rfl (rd_fieldAddr rfl) ?_
              refine ws_l rfl rfl rfl rfl (rd_load rfl) ?_
              refine ws_lp _ rfl rfl rfl rfl (rd_eqid rfl rfl Try.underlying37 (by kernel_rfl)) ?_ ?_
              · intro h61
                refine ws_l rfl rfl rfl rfl (rd_pick_f rfl rfl) ?_
                refine ws_l rfl rfl rfl rfl (rd_move rfl) ?_
                refine ws_xskip rfl rfl rfl rfl ?_
                refine ws_xskip rfl rfl rfl rfl ?_
                refine ws_xskip rfl rfl rfl rfl ?_
                refine ws_xskip rfl rfl rfl rfl ?_
                refine ws_xskip rfl rfl rfl rfl ?_
                refine ws_l rfl rfl rfl rfl (rd_pick_t rfl rfl) ?_
                refine ws_l rfl rfl rfl rfl (rd_move rfl) ?_
                refine ws_xskip rfl rfl rfl rfl ?_
                refine ws_xskip rfl rfl rfl rfl ?_
                refine ws_xskip rfl rfl rfl rfl ?_
                refine ws_xskip rfl rfl rfl rfl ?_
                refine ws_xskip rfl rfl rfl rfl ?_
                refine ws_l rfl rfl rfl rfl (rd_pick_t rfl rfl) ?_
                refine ws_l rfl rfl rfl rfl (rd_move rfl) ?_
                refine ws_xskip rfl rfl rfl rfl ?_
                refine ws_xskip rfl rfl rfl rfl ?_
                refine ws_xskip rfl rfl rfl rfl ?_
                refine ws_xskip rfl rfl rfl rfl ?_
                refine ws_xskip rfl rfl rfl rfl ?_
                refine ws_l rfl rfl rfl rfl (rd_pick_t rfl rfl) ?_
                refine ws_nil ?_
                refine qe_then ?_
                refine wc_true rfl ?_
                refine wc_exit ?_
                refine qe_then_exit ?_
                refine qe_block_exit ?_
                refine qe_then ?_
                refine wc_plain [(0, .x true), (1, .x true), (2, .x true)] (by kernel_rfl) ?_
                refine ws_l rfl rfl rfl rfl (rd_move rfl) ?_
                refine ws_l rfl rfl rfl rfl (rd_arith (((q + 1 : Nat) : Int)) rfl rfl rfl (by rw [wrap_i64 _ (by omega) (by omega)]; omega)) ?_
                refine ws_l rfl rfl rfl rfl (rd_assign rfl) ?_
                refine ws_nil ?_
                exact qe_loop fun ac2 w2 hs2 => ⟨_, by omega, q + 1, rfl, (by omega), st_sub hs2 _ rfl⟩
              · intro h61
                refine ws_l rfl rfl rfl rfl (rd_pick_f rfl rfl) ?_
                refine ws_l rfl rfl rfl rfl (rd_move rfl) ?_
                refine ws_l rfl rfl rfl rfl (rd_fieldAddr rfl) ?_
                refine ws_l rfl rfl rfl rfl (rd_load rfl) ?_
                refine ws_l rfl rfl rfl rfl (rd_fieldAddr rfl) ?_
                refine ws_l rfl rfl rfl rfl (rd_load rfl) ?_
                refine ws_lp _ rfl rfl rfl rfl (rd_eqid rfl rfl Try.underlying37 (by kernel_rfl)) ?_ ?_
                · intro h68
                  refine ws_l rfl rfl rfl rfl (rd_pick_f rfl rfl) ?_
                  refine ws_l rfl rfl rfl rfl (rd_move rfl) ?_
                  refine ws_xskip rfl rfl rfl rfl ?_
                  refine ws_xskip rfl rfl rfl rfl ?_
                  refine ws_xskip rfl rfl rfl rfl ?_
                  refine ws_xskip rfl rfl rfl rfl ?_
                  refine ws_xskip rfl rfl rfl rfl ?_
                  refine ws_l rfl rfl rfl rfl (rd_pick_t rfl rfl) ?_
                  refine ws_l rfl rfl rfl rfl (rd_move rfl) ?_
                  refine ws_xskip rfl rfl rfl rfl ?_
                  refine ws_xskip rfl rfl rfl rfl ?_
                  refine ws_xskip rfl rfl rfl rfl ?_
                  refine ws_xskip rfl rfl rfl rfl ?_
                  refine ws_xskip rfl rfl rfl rfl ?_
                  refine ws_l rfl rfl rfl rfl (rd_pick_t rfl rfl) ?_
                  refine ws_nil ?_
                  refine qe_then ?_
                  refine wc_true rfl ?_
                  refine wc_exit ?_
                  refine qe_then_exit ?_
                  refine qe_block_exit ?_
                  refine qe_then ?_
                  refine wc_plain [(0, .x true), (1, .x true), (2, .x true)] (by kernel_rfl) ?_
                  refine ws_l rfl rfl rfl rfl (rd_move rfl) ?_
                  refine ws_l rfl rfl rfl rfl (rd_arith (((q + 1 : Nat) : Int)) rfl rfl rfl (by rw [wrap_i64 _ (by omega) (by omega)]; omega)) ?_
                  refine ws_l rfl rfl rfl rfl (rd_assign rfl) ?_
                  refine ws_nil ?_
                  exact qe_loop fun ac2 w2 hs2 => ⟨_, by omega, q + 1, rfl, (by omega), st_sub hs2 _ rfl⟩
                · intro h68
                  refine ws_l rfl rfl rfl rfl (rd_pick_f rfl rfl) ?_
                  refine ws_l rfl rfl rfl rfl (rd_move rfl) ?_
                  refine ws_l rfl rfl rfl rfl (rd_fieldAddr rfl) ?_
                  refine ws_l rfl rfl rfl rfl (rd_load rfl) ?_
                  refine ws_l rfl rfl rfl rfl (rd_fieldAddr rfl) ?_
                  refine ws_l rfl rfl rfl rfl (rd_load rfl) ?_
                  refine ws_lp _ rfl rfl rfl rfl (rd_neid rfl rfl Try.underlying39 (by kernel_rfl)) ?_ ?_
                  · intro h75
                    refine ws_l rfl rfl rfl rfl (rd_pick_f rfl rfl) ?_
                    refine ws_l rfl rfl rfl rfl (rd_move rfl) ?_
                    refine ws_xskip rfl rfl rfl rfl ?_
                    refine ws_xskip rfl rfl rfl rfl ?_
                    refine ws_xskip rfl rfl rfl rfl ?_
                    refine ws_xskip rfl rfl rfl rfl ?_
                    refine ws_xskip rfl rfl rfl rfl ?_
                    refine ws_l rfl rfl rfl rfl (rd_pick_t rfl rfl) ?_
                    refine ws_nil ?_
                    refine qe_then ?_
                    refine wc_true rfl ?_
                    refine wc_exit ?_
                    refine qe_then_exit ?_
                    refine qe_block_exit ?_
                    refine qe_then ?_
                    refine wc_plain [(0, .x true), (1, .x true), (2, .x true)] (by kernel_rfl) ?_
                    refine ws_l rfl rfl rfl rfl (rd_move rfl) ?_
                    refine ws_l rfl rfl rfl rfl (rd_arith (((q + 1 : Nat) : Int)) rfl rfl rfl (by rw [wrap_i64 _ (by omega) (by omega)]; omega)) ?_
                    refine ws_l rfl rfl rfl rfl (rd_assign rfl) ?_
                    refine ws_nil ?_
                    exact qe_loop fun ac2 w2 hs2 => ⟨_, by omega, q + 1, rfl, (by omega), st_sub hs2 _ rfl⟩
                  · intro h75
                    refine ws_l rfl rfl rfl rfl (rd_pick_f rfl rfl) ?_
                    refine ws_l rfl rfl rfl rfl (rd_move rfl) ?_
                    refine ws_l rfl rfl rfl rfl (rd_fieldAddr rfl) ?_
                    refine ws_l rfl rfl rfl rfl (rd_load rfl) ?_
                    refine ws_l rfl rfl rfl rfl (rd_fieldAddr rfl) ?_
                    refine ws_l rfl rfl rfl rfl (rd_load rfl) ?_
                    refine ws_lcmp rfl rfl rfl (rfl) (rfl) (rfl) ?_ ?_
                    · intro h82
                      refine ws_l rfl rfl rfl rfl (rd_pick_f rfl rfl) ?_
                      refine ws_nil ?_
                      refine qe_then ?_
                      refine wc_true rfl ?_
                      refine wc_exit ?_
                      refine qe_then_exit ?_
                      refine qe_block_exit ?_
                      refine qe_then ?_
                      refine wc_plain [(0, .x true), (1, .x true), (2, .x true)] (by kernel_rfl) ?_
                      refine ws_l rfl rfl rfl rfl (rd_move rfl) ?_
                      refine ws_l rfl rfl rfl rfl (rd_arith (((q + 1 : Nat) : Int)) rfl rfl rfl (by rw [wrap_i64 _ (by omega) (by omega)]; omega)) ?_
                      refine ws_l rfl rfl rfl rfl (rd_assign rfl) ?_
                      refine ws_nil ?_
                      exact qe_loop fun ac2 w2 hs2 => ⟨_, by omega, q + 1, rfl, (by omega), st_sub hs2 _ rfl⟩
                    · intro h82
                      refine ws_l rfl rfl rfl rfl (rd_pick_f rfl rfl) ?_
                      refine ws_nil ?_
                      refine qe_then ?_
                      refine wc_false rfl ?_
                      refine wc_skip ?_
                      refine qe_then ?_
                      refine wc_seq ?_
                      refine wc_plain [(0, .x true), (1, .x true), (2, .x true), (3, .x true), (4, .x true), (5, .x true), (6, .x true), (7, .x true), (8, .x true), (9, .x true), (10, .x true), (11, .x true)] (by kernel_rfl) ?_
                      refine ws_l rfl rfl rfl rfl (rd_move rfl) ?_
                      refine ws_l rfl rfl rfl rfl (rd_fieldAddr rfl) ?_
                      refine ws_l rfl rfl rfl rfl (rd_load rfl) ?_
                      refine ws_callb (wdB (l.take 24) xa.id) rfl rfl rfl rfl rfl (En.go) (fun w hp hn ho => wd_ret p m k es ws c d L W (l.take 24) (νs ++ (ν4 ++ (νg ++ φ))) hL hW hok (by omega) xa.id w (hp.mono SubH.mem) (SubH.nd hn)) ?_ ?_
                      · intro hwa
                        refine ws_l rfl rfl rfl rfl (rd_not rfl) ?_
                        refine ws_l rfl rfl rfl rfl (rd_move rfl) ?_
                        refine ws_xskip rfl rfl rfl rfl ?_
                        refine ws_xskip rfl rfl rfl rfl ?_
                        refine ws_xskip rfl rfl rfl rfl ?_
                        refine ws_xskip rfl rfl rfl rfl ?_
                        refine ws_xskip rfl rfl rfl rfl ?_
                        refine ws_l rfl rfl rfl rfl (rd_pick_f rfl rfl) ?_
                        refine ws_nil ?_
                        refine qe_then ?_
                        refine wc_false rfl ?_
                        refine wc_skip ?_
                        refine qe_block ?_
                        refine qe_then ?_
                        refine wc_plain [(0, .x true), (1, .x true), (2, .x true)] (by kernel_rfl) ?_
                        refine ws_l rfl rfl rfl rfl (rd_move rfl) ?_
                        refine ws_l rfl rfl rfl rfl (rd_arith (((q + 1 : Nat) : Int)) rfl rfl rfl (by rw [wrap_i64 _ (by omega) (by omega)]; omega)) ?_
                        refine ws_l rfl rfl rfl rfl (rd_assign rfl) ?_
                        refine ws_nil ?_
                        exact qe_loop fun ac2 w2 hs2 => ⟨_, by omega, q + 1, rfl, (by omega), st_sub hs2 _ rfl⟩
                      · intro hwa
                        refine ws_l rfl rfl rfl rfl (rd_not rfl) ?_
                        refine ws_l rfl rfl rfl rfl (rd_move rfl) ?_
                        refine ws_l rfl rfl rfl rfl (rd_move rfl) ?_
                        refine ws_l rfl rfl rfl rfl (rd_fieldAddr rfl) ?_
                        refine ws_l rfl rfl rfl rfl (rd_load rfl) ?_
                        have hwb : wdB (l.take 24) xb.id = true := by
                          simp only [cmpP, ne_eq, Decidable.not_not] at h49 h54 h61 h68 h75 h82
                          have hne : xa.id ≠ xb.id := fun e => by
                            have h1 := uniq hok.nd (List.mem_of_getElem? hxa) (List.mem_of_getElem? hxb) e
                            have := at_inj hok.nd hxa hxb e
                            simp only [cmpP] at h34; omega
                          exact (one_wd hok.nd (List.mem_of_getElem? hxa) (List.mem_of_getElem? hxb) hne h49 h54 h61 h68 h75 ((u8_eq _ _).1 h82)).resolve_left (by rw [hwa]; simp)
                        refine ws_callp rfl rfl rfl rfl rfl (En.go) (fun w hp hn ho => by have h := wd_ret p m k es ws c d L W (l.take 24) (νs ++ (ν4 ++ (νg ++ φ))) hL hW hok (by omega) xb.id w (hp.mono SubH.mem) (SubH.nd hn); rwa [hwb] at h) ?_
                        refine ws_l rfl rfl rfl rfl (rd_not rfl) ?_
                        refine ws_l rfl rfl rfl rfl (rd_pick_t rfl rfl) ?_
                        refine ws_nil ?_
                        refine qe_then ?_
                        refine wc_false rfl ?_
                        refine wc_skip ?_
                        refine qe_block ?_
                        refine qe_then ?_
                        refine wc_plain [(0, .x true), (1, .x true), (2, .x true)] (by kernel_rfl) ?_
                        refine ws_l rfl rfl rfl rfl (rd_move rfl) ?_
                        refine ws_l rfl rfl rfl rfl (rd_arith (((q + 1 : Nat) : Int)) rfl rfl rfl (by rw [wrap_i64 _ (by omega) (by omega)]; omega)) ?_
                        refine ws_l rfl rfl rfl rfl (rd_assign rfl) ?_
                        refine ws_nil ?_
                        exact qe_loop fun ac2 w2 hs2 => ⟨_, by omega, q + 1, rfl, (by omega), st_sub hs2 _ rfl⟩
        ·
          refine ws_alloc rfl rfl rfl ?_
          intro b10 hb10
          refine od_go ?_
          refine od_seq ?_
          refine ws_alloc rfl rfl rfl ?_
          intro b9 hb9
          refine ws_store rfl rfl rfl rfl (by first | exact .inl (by assumption) | exact .inr (by simp)) (fun _ h _ => by first | (cases h; done) | exact List.mem_cons_of_mem _ h | exact List.mem_cons_of_mem _ (List.mem_cons_of_mem _ h) | (simp at h ⊢; simp [h])) ?_
          refine ws_late rfl ?_
          refine ws_store rfl rfl rfl rfl (by first | exact .inl (by assumption) | exact .inr (by simp)) (fun _ h _ => by first | (cases h; done) | exact List.mem_cons_of_mem _ h | exact List.mem_cons_of_mem _ (List.mem_cons_of_mem _ h) | (simp at h ⊢; simp [h])) ?_
          refine ws_nil ?_
          refine qe_then ?_
          refine wc_seq ?_
          refine wc_seq ?_
          refine wc_plain [(0, .x true), (1, .x true), (2, .x true), (3, .x true), (4, .x true), (5, .x true), (6, .x true), (7, .x true), (8, .x true), (9, .x true), (10, .x true), (11, .x true), (12, .x true), (13, .x true), (14, .x true), (15, .x true), (16, .x true), (17, .x true), (18, .x true), (19, .x true), (20, .x true), (21, .x true), (22, .x true), (23, .x true), (24, .x true), (25, .x true), (26, .x true), (27, .x true), (28, .x true), (29, .x true), (30, .x true), (31, .x true), (32, .x true), (33, .x true), (34, .x true), (35, .x true), (36, .x true), (37, .x true), (38, .x true)] (by kernel_rfl) ?_
          refine ws_l rfl rfl rfl rfl (rd_fieldAddr rfl) ?_
          refine ws_l rfl rfl rfl rfl (rd_load rfl) ?_
          refine ws_l rfl rfl rfl rfl (rd_fieldAddr rfl) ?_
          refine ws_l rfl rfl rfl rfl (rd_load rfl) ?_
          refine ws_lp _ rfl rfl rfl rfl (rd_neid rfl rfl Try.underlying37 (by kernel_rfl)) ?_ ?_
          · intro h49
            refine ws_l rfl rfl rfl rfl (rd_move rfl) ?_
            refine ws_xskip rfl rfl rfl rfl ?_
            refine ws_xskip rfl rfl rfl rfl ?_
            refine ws_xskip rfl rfl rfl rfl ?_
            refine ws_xskip rfl rfl rfl rfl ?_
            refine ws_l rfl rfl rfl rfl (rd_pick_t rfl rfl) ?_
            refine ws_l rfl rfl rfl rfl (rd_move rfl) ?_
            refine ws_xskip rfl rfl rfl rfl ?_
            refine ws_xskip rfl rfl rfl rfl ?_
            refine ws_xskip rfl rfl rfl rfl ?_
            refine ws_xskip rfl rfl rfl rfl ?_
            refine ws_xskip rfl rfl rfl rfl ?_
            refine ws_l rfl rfl rfl rfl (rd_pick_t rfl rfl) ?_
            refine ws_l rfl rfl rfl rfl (rd_move rfl) ?_
            refine ws_xskip rfl rfl rfl rfl ?_
            refine ws_xskip rfl rfl rfl rfl ?_
            refine ws_xskip rfl rfl rfl rfl ?_
            refine ws_xskip rfl rfl rfl rfl ?_
            refine ws_xskip rfl rfl rfl rfl ?_
            refine ws_l rfl rfl rfl rfl (rd_pick_t rfl rfl) ?_
            refine ws_l rfl rfl rfl rfl (rd_move rfl) ?_
            refine ws_xskip rfl rfl rfl rfl ?_
            refine ws_xskip rfl rfl rfl rfl ?_
            refine ws_xskip rfl rfl rfl rfl ?_
            refine ws_xskip rfl rfl rfl rfl ?_
            refine ws_xskip rfl rfl rfl rfl ?_
            refine ws_l rfl rfl rfl rfl (rd_pick_t rfl rfl) ?_
            refine ws_l rfl rfl rfl rfl (rd_move rfl) ?_
            refine ws_xskip rfl rfl rfl rfl ?_
            refine ws_xskip rfl rfl rfl rfl ?_
            refine ws_xskip rfl rfl rfl rfl ?_
            refine ws_xskip rfl rfl rfl rfl ?_
            refine ws_xskip rfl rfl rfl rfl ?_
            refine ws_l rfl rfl rfl rfl (rd_pick_t rfl rfl) ?_
            refine ws_nil ?_
            refine qe_then ?_
            refine wc_true rfl ?_
            refine wc_exit ?_
            refine qe_then_exit ?_
            refine qe_block_exit ?_
            refine qe_then ?_
            refine wc_plain [(0, .x true), (1, .x true), (2, .x true)] (by kernel_rfl) ?_
            refine ws_l rfl rfl rfl rfl (rd_move rfl) ?_
            refine ws_l rfl rfl rfl rfl (rd_arith (((q + 1 : Nat) : Int)) rfl rfl rfl (by rw [wrap_i64 _ (by omega) (by omega)]; omega)) ?_
            refine ws_l rfl rfl rfl rfl (rd_assign rfl) ?_
            refine ws_nil ?_
            exact qe_loop fun ac2 w2 hs2 => ⟨_, by omega, q + 1, rfl, (by omega), st_sub hs2 _ rfl⟩
          · intro h49
            refine ws_l rfl rfl rfl rfl (rd_move rfl) ?_
            refine ws_l rfl rfl rfl rfl (rd_fieldAddr rfl) ?_
            refine ws_l rfl rfl rfl rfl (rd_load rfl) ?_
            refine ws_l rfl rfl rfl rfl (rd_build rfl) ?_
            refine ws_lp _ rfl rfl rfl rfl (rd_eqid rfl rfl Try.underlying37 (by kernel_rfl)) ?_ ?_
            · intro h54
              refine ws_l rfl rfl rfl rfl (rd_pick_f rfl rfl) ?_
              refine ws_l rfl rfl rfl rfl (rd_move rfl) ?_
              refine ws_xskip rfl rfl rfl rfl ?_
              refine ws_xskip rfl rfl rfl rfl ?_
              refine ws_xskip rfl rfl rfl rfl ?_
              refine ws_xskip rfl rfl rfl rfl ?_
              refine ws_xskip rfl rfl rfl rfl ?_
              refine ws_l rfl rfl rfl rfl (rd_pick_t rfl rfl) ?_
              refine ws_l rfl rfl rfl rfl (rd_move rfl) ?_
              refine ws_xskip rfl rfl rfl rfl ?_
              refine ws_xskip rfl rfl rfl rfl ?_
              refine ws_xskip rfl rfl rfl rfl ?_
              refine ws_xskip rfl rfl rfl rfl ?_
              refine ws_xskip rfl rfl rfl rfl ?_
              refine ws_l rfl rfl rfl rfl (rd_pick_t rfl rfl) ?_
              refine ws_l rfl rfl rfl rfl (rd_move rfl) ?_
              refine ws_xskip rfl rfl rfl rfl ?_
              refine ws_xskip rfl rfl rfl rfl ?_
              refine ws_xskip rfl rfl rfl rfl ?_
              refine ws_xskip rfl rfl rfl rfl ?_
              refine ws_xskip rfl rfl rfl rfl ?_
              refine ws_l rfl rfl rfl rfl (rd_pick_t rfl rfl) ?_
              refine ws_l rfl rfl rfl rfl (rd_move rfl) ?_
              refine ws_xskip rfl rfl rfl rfl ?_
              refine ws_xskip rfl rfl rfl rfl ?_
              refine ws_xskip rfl rfl rfl rfl ?_
              refine ws_xskip rfl rfl rfl rfl ?_
              refine ws_xskip rfl rfl rfl rfl ?_
              refine ws_l rfl rfl rfl rfl (rd_pick_t rfl rfl) ?_
              refine ws_nil ?_
              refine qe_then ?_
              refine wc_true rfl ?_
              refine wc_exit ?_
              refine qe_then_exit ?_
              refine qe_block_exit ?_
              refine qe_then ?_
              refine wc_plain [(0, .x true), (1, .x true), (2, .x true)] (by kernel_rfl) ?_
              refine ws_l rfl rfl rfl rfl (rd_move rfl) ?_
              refine ws_l rfl rfl rfl rfl (rd_arith (((q + 1 : Nat) : Int)) rfl rfl rfl (by rw [wrap_i64 _ (by omega) (by omega)]; omega)) ?_
              refine ws_l rfl rfl rfl rfl (rd_assign rfl) ?_
              refine ws_nil ?_
              exact qe_loop fun ac2 w2 hs2 => ⟨_, by omega, q + 1, rfl, (by omega), st_sub hs2 _ rfl⟩
            · intro h54
              refine ws_l rfl rfl rfl rfl (rd_pick_f rfl rfl) ?_
              refine ws_l rfl rfl rfl rfl (rd_move rfl) ?_
              refine ws_l rfl rfl rfl rfl (rd_fieldAddr rfl) ?_
              refine ws_l rfl rfl rfl rfl (rd_load rfl) ?_
              refine ws_l rfl rfl rfl rfl (rd_fieldAddr rfl) ?_
              refine ws_l rfl rfl rfl rfl (rd_load rfl) ?_
              refine ws_lp _ rfl rfl rfl rfl (rd_eqid rfl rfl Try.underlying37 (by kernel_rfl)) ?_ ?_
              · intro h61
                refine ws_l rfl rfl rfl rfl (rd_pick_f rfl rfl) ?_
                refine ws_l rfl rfl rfl rfl (rd_move rfl) ?_
                refine ws_xskip rfl rfl rfl rfl ?_
                refine ws_xskip rfl rfl rfl rfl ?_
                refine ws_xskip rfl rfl rfl rfl ?_
                refine ws_xskip rfl rfl rfl rfl ?_
                refine ws_xskip rfl rfl rfl rfl ?_
                refine ws_l rfl rfl rfl rfl (rd_pick_t rfl rfl) ?_
                refine ws_l rfl rfl rfl rfl (rd_move rfl) ?_
                refine ws_xskip rfl rfl rfl rfl ?_
                refine ws_xskip rfl rfl rfl rfl ?_
                refine ws_xskip rfl rfl rfl rfl ?_
                refine ws_xskip rfl rfl rfl rfl ?_
                refine ws_xskip rfl rfl rfl rfl ?_
                refine ws_l rfl rfl rfl rfl (rd_pick_t rfl rfl) ?_
                refine ws_l rfl rfl rfl rfl (rd_move rfl) ?_
                refine ws_xskip rfl rfl rfl rfl ?_
                refine ws_xskip rfl rfl rfl rfl ?_
                refine ws_xskip rfl rfl rfl rfl ?_
                refine ws_xskip rfl rfl rfl rfl ?_
                refine ws_xskip rfl rfl rfl rfl ?_
                refine ws_l rfl rfl rfl rfl (rd_pick_t rfl rfl) ?_
                refine ws_nil ?_
                refine qe_then ?_
                refine wc_true rfl ?_
                refine wc_exit ?_
                refine qe_then_exit ?_
                refine qe_block_exit ?_
                refine qe_then ?_
                refine wc_plain [(0, .x true), (1, .x true), (2, .x true)] (by kernel_rfl) ?_
                refine ws_l rfl rfl rfl rfl (rd_move rfl) ?_
                refine ws_l rfl rfl rfl rfl (rd_arith (((q + 1 : Nat) : Int)) rfl rfl rfl (by rw [wrap_i64 _ (by omega) (by omega)]; omega)) ?_
                refine ws_l rfl rfl rfl rfl (rd_assign rfl) ?_
                refine ws_nil ?_
                exact qe_loop fun ac2 w2 hs2 => ⟨_, by omega, q + 1, rfl, (by omega), st_sub hs2 _ rfl⟩
              · intro h61
                refine ws_l rfl rfl rfl rfl (rd_pick_f rfl rfl) ?_
                refine ws_l rfl rfl rfl rfl (rd_move rfl) ?_
                refine ws_l rfl rfl rfl rfl (rd_fieldAddr rfl) ?_
                refine ws_l rfl rfl rfl rfl (rd_load rfl) ?_
                refine ws_l rfl rfl rfl rfl (rd_fieldAddr rfl) ?_
                refine ws_l rfl rfl rfl rfl (rd_load rfl) ?_
                refine ws_lp _ rfl rfl rfl rfl (rd_eqid rfl rfl Try.underlying37 (by kernel_rfl)) ?_ ?_
                · intro h68
                  refine ws_l rfl rfl rfl rfl (rd_pick_f rfl rfl) ?_
                  refine ws_l rfl rfl rfl rfl (rd_move rfl) ?_
                  refine ws_xskip rfl rfl rfl rfl ?_
                  refine ws_xskip rfl rfl rfl rfl ?_
                  refine ws_xskip rfl rfl rfl rfl ?_
                  refine ws_xskip rfl rfl rfl rfl ?_
                  refine ws_xskip rfl rfl rfl rfl ?_
                  refine ws_l rfl rfl rfl rfl (rd_pick_t rfl rfl) ?_
                  refine ws_l rfl rfl rfl rfl (rd_move rfl) ?_
                  refine ws_xskip rfl rfl rfl rfl ?_
                  refine ws_xskip rfl rfl rfl rfl ?_
                  refine ws_xskip rfl rfl rfl rfl ?_
                  refine ws_xskip rfl rfl rfl rfl ?_
                  refine ws_xskip rfl rfl rfl rfl ?_
                  refine ws_l rfl rfl rfl rfl (rd_pick_t rfl rfl) ?_
                  refine ws_nil ?_
                  refine qe_then ?_
                  refine wc_true rfl ?_
                  refine wc_exit ?_
                  refine qe_then_exit ?_
                  refine qe_block_exit ?_
                  refine qe_then ?_
                  refine wc_plain [(0, .x true), (1, .x true), (2, .x true)] (by kernel_rfl) ?_
                  refine ws_l rfl rfl rfl rfl (rd_move rfl) ?_
                  refine ws_l rfl rfl rfl rfl (rd_arith (((q + 1 : Nat) : Int)) rfl rfl rfl (by rw [wrap_i64 _ (by omega) (by omega)]; omega)) ?_
                  refine ws_l rfl rfl rfl rfl (rd_assign rfl) ?_
                  refine ws_nil ?_
                  exact qe_loop fun ac2 w2 hs2 => ⟨_, by omega, q + 1, rfl, (by omega), st_sub hs2 _ rfl⟩
                · intro h68
                  refine ws_l rfl rfl rfl rfl (rd_pick_f rfl rfl) ?_
                  refine ws_l rfl rfl rfl rfl (rd_move rfl) ?_
                  refine ws_l rfl rfl rfl rfl (rd_fieldAddr rfl) ?_
                  refine ws_l rfl rfl rfl rfl (rd_load rfl) ?_
                  refine ws_l rfl rfl rfl rfl (rd_fieldAddr rfl) ?_
                  refine ws_l rfl rfl rfl rfl (rd_load rfl) ?_
                  refine ws_lp _ rfl rfl rfl rfl (rd_neid rfl rfl Try.underlying39 (by kernel_rfl)) ?_ ?_
                  · intro h75
                    refine ws_l rfl rfl rfl rfl (rd_pick_f rfl rfl) ?_
                    refine ws_l rfl rfl rfl rfl (rd_move rfl) ?_
                    refine ws_xskip rfl rfl rfl rfl ?_
                    refine ws_xskip rfl rfl rfl rfl ?_
                    refine ws_xskip rfl rfl rfl rfl ?_
                    refine ws_xskip rfl rfl rfl rfl ?_
                    refine ws_xskip rfl rfl rfl rfl ?_
                    refine ws_l rfl rfl rfl rfl (rd_pick_t rfl rfl) ?_
                    refine ws_nil ?_
                    refine qe_then ?_
                    refine wc_true rfl ?_
                    refine wc_exit ?_
                    refine qe_then_exit ?_
                    refine qe_block_exit ?_
                    refine qe_then ?_
                    refine wc_plain [(0, .x true), (1, .x true), (2, .x true)] (by kernel_rfl) ?_
                    refine ws_l rfl rfl rfl rfl (rd_move rfl) ?_
                    refine ws_l rfl rfl rfl rfl (rd_arith (((q + 1 : Nat) : Int)) rfl rfl rfl (by rw [wrap_i64 _ (by omega) (by omega)]; omega)) ?_
                    refine ws_l rfl rfl rfl rfl (rd_assign rfl) ?_
                    refine ws_nil ?_
                    exact qe_loop fun ac2 w2 hs2 => ⟨_, by omega, q + 1, rfl, (by omega), st_sub hs2 _ rfl⟩
                  · intro h75
                    refine ws_l rfl rfl rfl rfl (rd_pick_f rfl rfl) ?_
                    refine ws_l rfl rfl rfl rfl (rd_move rfl) ?_
                    refine ws_l rfl rfl rfl rfl (rd_fieldAddr rfl) ?_
                    refine ws_l rfl rfl rfl rfl (rd_load rfl) ?_
                    refine ws_l rfl rfl rfl rfl (rd_fieldAddr rfl) ?_
                    refine ws_l rfl rfl rfl rfl (rd_load rfl) ?_
                    refine ws_lcmp rfl rfl rfl (rfl) (rfl) (rfl) ?_ ?_
                    · intro h82
                      refine ws_l rfl rfl rfl rfl (rd_pick_f rfl rfl) ?_
                      refine ws_nil ?_
                      refine qe_then ?_
                      refine wc_true rfl ?_
                      refine wc_exit ?_
                      refine qe_then_exit ?_
                      refine qe_block_exit ?_
                      refine qe_then ?_
                      refine wc_plain [(0, .x true), (1, .x true), (2, .x true)] (by kernel_rfl) ?_
                      refine ws_l rfl rfl rfl rfl (rd_move rfl) ?_
                      refine ws_l rfl rfl rfl rfl (rd_arith (((q + 1 : Nat) : Int)) rfl rfl rfl (by rw [wrap_i64 _ (by omega) (by omega)]; omega)) ?_
                      refine ws_l rfl rfl rfl rfl (rd_assign rfl) ?_
                      refine ws_nil ?_
                      exact qe_loop fun ac2 w2 hs2 => ⟨_, by omega, q + 1, rfl, (by omega), st_sub hs2 _ rfl⟩
                    · intro h82
                      refine ws_l rfl rfl rfl rfl (rd_pick_f rfl rfl) ?_
                      refine ws_nil ?_
                      refine qe_then ?_
                      refine wc_false rfl ?_
                      refine wc_skip ?_
                      refine qe_then ?_
                      refine wc_seq ?_
                      refine wc_plain [(0, .x true), (1, .x true), (2, .x true), (3, .x true), (4, .x true), (5, .x true), (6, .x true), (7, .x true), (8, .x true), (9, .x true), (10, .x true), (11, .x true)] (by kernel_rfl) ?_
                      refine ws_l rfl rfl rfl rfl (rd_move rfl) ?_
                      refine ws_l rfl rfl rfl rfl (rd_fieldAddr rfl) ?_
                      refine ws_l rfl rfl rfl rfl (rd_load rfl) ?_
                      refine ws_callb (wdB (l.take 24) xa.id) rfl rfl rfl rfl rfl (En.go) (fun w hp hn ho => wd_ret p m k es ws c d L W (l.take 24) (νs ++ (ν4 ++ (νg ++ φ))) hL hW hok (by omega) xa.id w (hp.mono SubH.mem) (SubH.nd hn)) ?_ ?_
                      · intro hwa
                        refine ws_l rfl rfl rfl rfl (rd_not rfl) ?_
                        refine ws_l rfl rfl rfl rfl (rd_move rfl) ?_
                        refine ws_xskip rfl rfl rfl rfl ?_
                        refine ws_xskip rfl rfl rfl rfl ?_
                        refine ws_xskip rfl rfl rfl rfl ?_
                        refine ws_xskip rfl rfl rfl rfl ?_
                        refine ws_xskip rfl rfl rfl rfl ?_
                        refine ws_l rfl rfl rfl rfl (rd_pick_f rfl rfl) ?_
                        refine ws_nil ?_
                        refine qe_then ?_
                        refine wc_false rfl ?_
                        refine wc_skip ?_
                        refine qe_block ?_
                        refine qe_then ?_
                        refine wc_plain [(0, .x true), (1, .x true), (2, .x true)] (by kernel_rfl) ?_
                        refine ws_l rfl rfl rfl rfl (rd_move rfl) ?_
                        refine ws_l rfl rfl rfl rfl (rd_arith (((q + 1 : Nat) : Int)) rfl rfl rfl (by rw [wrap_i64 _ (by omega) (by omega)]; omega)) ?_
                        refine ws_l rfl rfl rfl rfl (rd_assign rfl) ?_
                        refine ws_nil ?_
                        exact qe_loop fun ac2 w2 hs2 => ⟨_, by omega, q + 1, rfl, (by omega), st_sub hs2 _ rfl⟩
                      · intro hwa
                        refine ws_l rfl rfl rfl rfl (rd_not rfl) ?_
                        refine ws_l rfl rfl rfl rfl (rd_move rfl) ?_
                        refine ws_l rfl rfl rfl rfl (rd_move rfl) ?_
                        refine ws_l rfl rfl rfl rfl (rd_fieldAddr rfl) ?_
                        refine ws_l rfl rfl rfl rfl (rd_load rfl) ?_
                        have hwb : wdB (l.take 24) xb.id = true := by
                          simp only [cmpP, ne_eq, Decidable.not_not] at h49 h54 h61 h68 h75 h82
                          have hne : xa.id ≠ xb.id := fun e => by
                            have h1 := uniq hok.nd (List.mem_of_getElem? hxa) (List.mem_of_getElem? hxb) e
                            have := at_inj hok.nd hxa hxb e
                            simp only [cmpP] at h34; omega
                          exact (one_wd hok.nd (List.mem_of_getElem? hxa) (List.mem_of_getElem? hxb) hne h49 h54 h61 h68 h75 ((u8_eq _ _).1 h82)).resolve_left (by rw [hwa]; simp)
                        refine ws_callp rfl rfl rfl rfl rfl (En.go) (fun w hp hn ho => by have h := wd_ret p m k es ws c d L W (l.take 24) (νs ++ (ν4 ++ (νg ++ φ))) hL hW hok (by omega) xb.id w (hp.mono SubH.mem) (SubH.nd hn); rwa [hwb] at h) ?_
                        refine ws_l rfl rfl rfl rfl (rd_not rfl) ?_
                        refine ws_l rfl rfl rfl rfl (rd_pick_t rfl rfl) ?_
                        refine ws_nil ?_
                        refine qe_then ?_
                        refine wc_false rfl ?_
                        refine wc_skip ?_
                        refine qe_block ?_
                        refine qe_then ?_
                        refine wc_plain [(0, .x true), (1, .x true), (2, .x true)] (by kernel_rfl) ?_
                        refine ws_l rfl rfl rfl rfl (rd_move rfl) ?_
                        refine ws_l rfl rfl rfl rfl (rd_arith (((q + 1 : Nat) : Int)) rfl rfl rfl (by rw [wrap_i64 _ (by omega) (by omega)]; omega)) ?_
                        refine ws_l rfl rfl rfl rfl (rd_assign rfl) ?_
                        refine ws_nil ?_
                        exact qe_loop fun ac2 w2 hs2 => ⟨_, by omega, q + 1, rfl, (by omega), st_sub hs2 _ rfl⟩
      · intro h34
        refine ws_nil ?_
        refine qe_then ?_
        refine wc_false rfl ?_
        refine wc_exit ?_
        refine qe_then_exit ?_
        refine qe_then_exit ?_
        refine qe_block_exit ?_
        refine qe_block ?_
        refine qe_then ?_
        refine wc_plain [(0, .x true), (1, .x true), (2, .x true)] (by kernel_rfl) ?_
        refine ws_l rfl rfl rfl rfl (rd_move rfl) ?_
        refine ws_l rfl rfl rfl rfl (rd_arith (((i + 1 : Nat) : Int)) rfl rfl rfl (by rw [wrap_i64 _ (by omega) (by omega)]; omega)) ?_
        refine ws_l rfl rfl rfl rfl (rd_assign rfl) ?_
        refine ws_nil ?_
        exact qe_loop fun ac2 w2 hs2 => ⟨_, by omega, i + 1, rfl, (by omega), st_sub hs2 _ rfl⟩
    · intro h26
      refine ws_l rfl rfl rfl rfl (rd_move rfl) ?_
      refine ws_xskip rfl rfl rfl rfl ?_
      refine ws_l rfl rfl rfl rfl (rd_pick_f rfl rfl) ?_
      refine ws_nil ?_
      refine qe_then ?_
      refine wc_false rfl ?_
      refine wc_exit ?_
      refine qe_then_exit ?_
      refine qe_then_exit ?_
      refine qe_block_exit ?_
      refine qe_then ?_
      refine wc_keep [] rfl ?_
      refine wc_seq ?_
      refine wc_plain [(0, .x true)] (by kernel_rfl) ?_
      refine ws_l rfl rfl rfl rfl (rd_assign rfl) ?_
      refine ws_nil ?_
      refine qe_then ?_
      refine wc_ret ?_
      refine qe_body _ (.inl rfl) (res1 rfl (RV.tmp rfl)) ?_
      exact ret_end fun w hp hn ho => rfl

end Go.Proofs.Ytaagmgpfpaanlaa
