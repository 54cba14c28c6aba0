/- Walk: SupersedeAlone. No conditions. -/
import Derived.Test.YtaagmgpfpaanlaaW13
namespace Go.Proofs.Ytaagmgpfpaanlaa
open Go Go.RowKit Go.Sx
set_option linter.unusedSimpArgs false
set_option linter.unusedVariables false

theorem take_mono {α : Type} {l : List α} {i j : Nat} (h : i ≤ j) {x : α} (hx : x ∈ l.take i) : x ∈ l.take j := by
  have e : l.take i = (l.take j).take i := by rw [List.take_take, Nat.min_eq_left h]
  rw [e] at hx
  exact List.mem_of_mem_take hx
set_option maxRecDepth 100000 in
set_option maxHeartbeats 2000000 in
theorem supersedeAlone_ret (v : Value) (φ : Heap) (l : List RR) (hsrc : Src φ v 82 l.length (l.flatMap rrL)) (hcap : CapOK v l.length) (x : RR) (w : World) (hφ : HpOK φ w) (hnd : (φ.map Prod.fst).Nodup) : Ret Try.prog 5 [v, rrK x] w [] (fun u _ => u = .bool true) := by
  refine enter (n := 81) (args := [v, rrK x]) [] φ Try.func5 rfl rfl rfl hφ hnd ?_
  refine wc_seq ?_
  refine wc_plain [(0, .x true), (1, .x true)] (by kernel_rfl) ?_
  refine ws_box rfl rfl rfl rfl ?_
  intro b3 hb3
  refine ws_l rfl rfl rfl rfl (rd_assign rfl) ?_
  refine ws_nil ?_
  refine qe_then ?_
  refine wc_seq ?_
  refine wc_plain [(0, .x true), (1, .x true), (2, .x true), (3, .x true), (4, .x true), (5, .x true), (6, .x true)] (by kernel_rfl) ?_
  refine ws_l rfl rfl rfl rfl (rd_move rfl) ?_
  refine ws_call rfl rfl rfl rfl rfl (En.go) (fun w hp hn ho => rows_law v φ l hsrc hcap w (hp.mono SubH.mem) hnd) (fun _ h => by cases h) (fun hh q h => by first | (cases h; done) | exact hh q h) ?_
  rintro v14 wa wb hpo hon hon2 hp1 ⟨hs, v4, u10, ν4, νg, rfl, hrows, hrp, hrn, hrf, hrown, hrgs, hu10, hc10⟩
  refine ⟨ν4 ++ νg, hrp, hrn, fun b hb => .inl (hrf b hb), ?_⟩
  have hl24 : (l.take 24).length ≤ 24 := by rw [List.length_take]; omega
  have hsl : hs.length = (l.take 24).length := by rw [← hrows, List.length_map]
  replace hrown := hrown.mono hon.size
  rw [List.append_assoc]
  have hrsrc : Src (ν4 ++ (νg ++ φ)) v4 83 hs.length (hs.flatMap hrL) := hrown.src.mono (fun q hq => List.mem_append_left _ hq)
  have hrg : ∀ x ∈ hs, GOK (ν4 ++ (νg ++ φ)) x.g x.r.grp := fun x hx => (hrgs x hx).mono (fun q hq => List.mem_append_right _ (List.mem_append_left _ hq))
  refine ws_l rfl rfl rfl rfl (rd_move rfl) ?_
  refine ws_l rfl rfl rfl rfl (rd_extract rfl) ?_
  refine ws_l rfl rfl rfl rfl (rd_extract rfl) ?_
  refine ws_l rfl rfl rfl rfl (rd_assign rfl) ?_
  refine ws_l rfl rfl rfl rfl (rd_assign rfl) ?_
  refine ws_nil ?_
  refine qe_then ?_
  refine wc_keep [(3, _), (4, _), (5, _)] rfl ?_
  refine wc_seq ?_
  refine wc_plain [(0, .x true), (1, .x true), (2, .x true)] (by kernel_rfl) ?_
  refine ws_l rfl rfl rfl rfl (rd_build rfl) ?_
  refine ws_l rfl rfl rfl rfl (rd_fieldAddr rfl) ?_
  refine ws_store rfl rfl rfl rfl (by first | exact .inl (by assumption) | exact .inr (by simp)) (fun _ h _ => by first | (cases h; done) | exact List.mem_cons_of_mem _ h | exact List.mem_cons_of_mem _ (List.mem_cons_of_mem _ h) | (simp at h ⊢; simp [h])) ?_
  refine ws_nil ?_
  refine qe_then ?_
  refine wc_seq ?_
  refine wc_seq ?_
  refine wc_plain [(0, .x true)] (by kernel_rfl) ?_
  refine ws_l rfl rfl rfl rfl (rd_assign rfl) ?_
  refine ws_nil ?_
  refine qe_then ?_
  refine wc_block ?_
  refine wc_loop (fun mz ac w1 => ∃ (j : Nat), mz = hs.length - j ∧ (j ≤ hs.length) ∧ (∀ y ∈ hs.take j, y.r.sup ≠ x.id ∧ y.r.id ≠ x.id) ∧ St 81 w [] [(3, ptr b3), (5, v4), (7, I j)] ((b3, .cells (rrC ({ x with sup := id0 } : RR)) 46 (0, 0)) :: (ν4 ++ (νg ++ φ))) ac w1) _ (fun ac w1 hs => ⟨0, rfl, (by omega), (by simp), st_sub hs _ rfl⟩) ?_
  rintro _ ac1 wl1 ⟨j, rfl, hj, hno, hs1⟩
  refine wc_at hs1 ?_
  refine wc_seq ?_
  refine wc_seq ?_
  refine wc_plain [(0, .x true), (1, .x true), (2, .x true), (3, .x true)] (by kernel_rfl) ?_
  refine ws_l rfl rfl rfl rfl (rd_move rfl) ?_
  refine ws_l rfl rfl rfl rfl (rd_move rfl) ?_
  refine ws_l rfl rfl rfl rfl (rd_lenS hrown.src rfl Try.underlying23) ?_
  refine ws_lcmp rfl rfl rfl (rfl) (rfl) (rfl) ?_ ?_
  · intro h22
    refine ws_nil ?_
    refine qe_then ?_
    refine wc_true rfl ?_
    refine wc_skip ?_
    refine qe_then ?_
    refine wc_seq ?_
    refine wc_block ?_
    refine wc_seq ?_
    refine wc_drawn mixedT _ (fun _ h => h) [(0, .r), (1, .r), (2, .r), (3, .r), (4, .r), (5, .r), (6, .r), (7, .r), (8, .r), (9, .r), (10, .r), (11, .r), (12, .r), (13, .r), (14, .r), (15, .r), (16, .x true), (17, .x true)] (by kernel_rfl) ?_
    refine ws_r rfl rfl rfl rfl (rd_move rfl) ?_
    refine ws_r rfl rfl rfl rfl (rd_move rfl) ?_
    obtain ⟨bv, ov, cv, csv, Ev, frv, rfl, hmv, hcv⟩ := Src.opened hrown.src (by omega)
    have hmiv : HM bv (.cells csv Ev frv) ν4 := ⟨hmv⟩
    obtain ⟨r, hr⟩ := at_ex (l := hs) (j := j) (by omega)
    have atr : AtW csv (ov + j * 83) r.r r.g := at_w hcv hr
    refine ws_r rfl rfl rfl rfl (rd_index (ov + j * 83) rfl rfl Try.underlying23 Try.sizeOf43 ⟨by omega, by omega⟩ (by simp)) ?_
    refine ws_r rfl rfl rfl rfl (rd_fieldAddr rfl) ?_
    refine ws_r rfl rfl rfl rfl (rd_load rfl) ?_
    refine ws_r rfl rfl rfl rfl (rd_fieldAddr rfl) ?_
    refine ws_r rfl rfl rfl rfl (rd_load rfl) ?_
    refine ws_rp _ rfl rfl rfl rfl (rd_eqid rfl rfl Try.underlying38 (by kernel_rfl)) ?_ ?_
    · intro h32
      refine ws_r rfl rfl rfl rfl (rd_move rfl) ?_
      refine ws_rskip rfl rfl rfl rfl ?_
      refine ws_rskip rfl rfl rfl rfl ?_
      refine ws_rskip rfl rfl rfl rfl ?_
      refine ws_rskip rfl rfl rfl rfl ?_
      refine ws_rskip rfl rfl rfl rfl ?_
      refine ws_rskip rfl rfl rfl rfl ?_
      refine ws_rskip rfl rfl rfl rfl ?_
      refine ws_late rfl ?_
      refine ws_xskip rfl rfl rfl rfl ?_
      refine ws_l rfl rfl rfl rfl (rd_pick_t rfl rfl) ?_
      refine ws_nil ?_
      refine qe_then ?_
      refine wc_true rfl ?_
      refine wc_seq ?_
      refine wc_plain [(0, .x true), (1, .x true)] (by kernel_rfl) ?_
      refine ws_callp rfl rfl rfl rfl rfl (En.go) (fun w hp hn ho => known_ret w) ?_
      refine ws_l rfl rfl rfl rfl (rd_assign rfl) ?_
      refine ws_nil ?_
      refine qe_then ?_
      refine wc_ret ?_
      refine qe_block_ret ?_
      refine qe_then_ret ?_
      refine qe_then_ret ?_
      refine qe_block_ret ?_
      refine qe_then_ret ?_
      refine qe_body _ (.inl rfl) (res1 rfl (RV.tmp rfl)) ?_
      exact ret_end fun w hp hn ho => rfl
    · intro h32
      refine ws_r rfl rfl rfl rfl (rd_move rfl) ?_
      refine ws_r rfl rfl rfl rfl (rd_move rfl) ?_
      refine ws_r rfl rfl rfl rfl (rd_move rfl) ?_
      refine ws_r rfl rfl rfl rfl (rd_index (ov + j * 83) rfl rfl Try.underlying23 Try.sizeOf43 ⟨by omega, by omega⟩ (by simp)) ?_
      refine ws_r rfl rfl rfl rfl (rd_fieldAddr rfl) ?_
      refine ws_r rfl rfl rfl rfl (rd_load rfl) ?_
      refine ws_r rfl rfl rfl rfl (rd_fieldAddr rfl) ?_
      refine ws_r rfl rfl rfl rfl (rd_load rfl) ?_
      refine ws_late rfl ?_
      refine ws_lp _ rfl rfl rfl rfl (rd_eqid rfl rfl Try.underlying38 (by kernel_rfl)) ?_ ?_
      · intro h41
        refine ws_l rfl rfl rfl rfl (rd_pick_f rfl rfl) ?_
        refine ws_nil ?_
        refine qe_then ?_
        refine wc_true rfl ?_
        refine wc_seq ?_
        refine wc_plain [(0, .x true), (1, .x true)] (by kernel_rfl) ?_
        refine ws_callp rfl rfl rfl rfl rfl (En.go) (fun w hp hn ho => known_ret w) ?_
        refine ws_l rfl rfl rfl rfl (rd_assign rfl) ?_
        refine ws_nil ?_
        refine qe_then ?_
        refine wc_ret ?_
        refine qe_block_ret ?_
        refine qe_then_ret ?_
        refine qe_then_ret ?_
        refine qe_block_ret ?_
        refine qe_then_ret ?_
        refine qe_body _ (.inl rfl) (res1 rfl (RV.tmp rfl)) ?_
        exact ret_end fun w hp hn ho => rfl
      · intro h41
        refine ws_l rfl rfl rfl rfl (rd_pick_f rfl rfl) ?_
        refine ws_nil ?_
        refine qe_then ?_
        refine wc_false rfl ?_
        refine wc_skip ?_
        refine qe_block ?_
        refine qe_then ?_
        refine wc_plain [(0, .x true), (1, .x true), (2, .x true)] (by kernel_rfl) ?_
        refine ws_l rfl rfl rfl rfl (rd_move rfl) ?_
        refine ws_l rfl rfl rfl rfl (rd_arith (((j + 1 : Nat) : Int)) rfl rfl rfl (by rw [wrap_i64 _ (by omega) (by omega)]; omega)) ?_
        refine ws_l rfl rfl rfl rfl (rd_assign rfl) ?_
        refine ws_nil ?_
        exact qe_loop fun ac2 w2 hs2 => ⟨_, by omega, j + 1, rfl, (by omega), (by rw [take_at hr]; intro y hy; rcases List.mem_append.1 hy with hy | hy; exact hno y hy; rw [List.mem_singleton.1 hy]; exact ⟨h32, h41⟩), st_sub hs2 _ rfl⟩
  · intro h22
    refine ws_nil ?_
    refine qe_then ?_
    refine wc_false rfl ?_
    refine wc_exit ?_
    refine qe_then_exit ?_
    refine qe_then_exit ?_
    refine qe_block_exit ?_
    refine qe_then ?_
    refine wc_keep [(3, _), (5, _)] rfl ?_
    refine wc_seq ?_
    refine wc_plain [(0, .x true), (1, .x true), (2, .x true), (3, .x true), (4, .x true), (5, .x true), (6, .x true), (7, .x true), (8, .x true), (9, .x true), (10, .x true)] (by kernel_rfl) ?_
    refine ws_l rfl rfl rfl rfl (rd_move rfl) ?_
    refine ws_l rfl rfl rfl rfl (rd_load rfl) ?_
    refine ws_call rfl rfl rfl rfl rfl (En.go) (fun w hp hn ho => to_ret ({ x with sup := id0 } : RR) w) (fun _ h => by cases h) (fun hh q h => by first | (cases h; done) | exact hh q h) ?_
    rintro v47 wa wb hpo hon hon2 hp1 ⟨g47, ν47, rfl, hown47, hν47⟩
    have hjl : j = hs.length := by simp only [cmpP] at h22; omega
    rw [List.take_of_length_le (by omega)] at hno
    refine ⟨ν47, hν47, hown47.nd, fun b hb => .inl (hown47.far b hb), ?_⟩
    replace hown47 := hown47.mono hon.size
    refine ws_buildSlice rfl rfl rfl rfl ?_
    intro b48 hb48
    refine ws_append rfl rfl rfl rfl rfl hrown (by simp [rowC_size]) (rowC_one _ _) (by simp only [maxLen]; omega) (by omega) (fun _ _ _ h => by first | (cases h; done) | (simp only [List.mem_append, List.mem_cons] at h ⊢; grind) | skip) ?_
    intro v9 ν9 hown9'
    have hown9 : OwnR w.heap.size 43 83 v9 ν9 (hs ++ [HR.mk ({ x with sup := id0 } : RR) g47]).length ((hs ++ [HR.mk ({ x with sup := id0 } : RR) g47]).flatMap hrL) := Row.app (enc := hrL) (ys := [HR.mk ({ x with sup := id0 } : RR) g47]) hown9' rfl (by simp)
    have hrows2 : (hs ++ [HR.mk ({ x with sup := id0 } : RR) g47]).map HR.r = (l.take 24 ++ [({ x with sup := id0 } : RR)]) := by rw [List.map_append, hrows]; rfl
    refine ws_call rfl rfl rfl rfl rfl (En.go) (fun w hp hn ho => ends_ret v9 (ν9 ++ (ν47 ++ (νg ++ φ))) (hs ++ [HR.mk ({ x with sup := id0 } : RR) g47]) (hown9.src.mono (fun q hq => List.mem_append_left _ hq)) (by simp; omega) (fun y hy => by rcases List.mem_append.1 hy with hy | hy; exact (hrgs y hy).mono (fun q hq => List.mem_append_right _ (List.mem_append_right _ (List.mem_append_left _ hq))); rw [List.mem_singleton.1 hy]; exact hown47.src.mono (fun q hq => List.mem_append_right _ (List.mem_append_left _ hq))) w (hp.mono (SubH.mem (η' := (ν9 ++ (ν47 ++ (νg ++ φ)))))) (SubH.nd (η' := (ν9 ++ (ν47 ++ (νg ++ φ)))) hn)) (fun _ h => by cases h) (fun hh q h => by first | (cases h; done) | exact hh q h) ?_
    rintro v50 wa wb hpo hon hon2 hp1 ⟨g8, ν8, rfl, hown8, hν8⟩
    refine ⟨ν8, hν8, hown8.nd, fun b hb => .inl (hown8.far b hb), ?_⟩
    replace hown8 := hown8.mono hon.size
    rw [hrows2] at hown8
    rw [hrows2]
    refine ws_l rfl rfl rfl rfl (rd_move rfl) ?_
    refine ws_l rfl rfl rfl rfl (rd_extract rfl) ?_
    refine ws_l rfl rfl rfl rfl (rd_extract rfl) ?_
    refine ws_l rfl rfl rfl rfl (rd_assign rfl) ?_
    refine ws_l rfl rfl rfl rfl (rd_assign rfl) ?_
    refine ws_nil ?_
    refine qe_then ?_
    refine wc_keep [(3, _), (8, _), (9, _)] rfl ?_
    refine wc_seq ?_
    refine wc_seq ?_
    refine wc_plain [(0, .x true), (1, .x true)] (by kernel_rfl) ?_
    refine ws_l rfl rfl rfl rfl (rd_move rfl) ?_
    by_cases hchk : chkE (l.take 24 ++ [({ x with sup := id0 } : RR)]) = 0
    ·
      refine ws_l rfl rfl rfl rfl (rd_cmp_f rfl rfl rfl (by simp only [cmpP]; omega)) ?_
      refine ws_nil ?_
      refine qe_then ?_
      refine wc_false rfl ?_
      refine wc_skip ?_
      refine qe_then ?_
      refine wc_seq ?_
      refine wc_plain [(0, .x true)] (by kernel_rfl) ?_
      refine ws_l rfl rfl rfl rfl (rd_assign rfl) ?_
      refine ws_nil ?_
      refine qe_then ?_
      refine wc_seq ?_
      refine wc_seq ?_
      refine wc_plain [(0, .x true)] (by kernel_rfl) ?_
      refine ws_l rfl rfl rfl rfl (rd_assign rfl) ?_
      refine ws_nil ?_
      refine qe_then ?_
      refine wc_block ?_
      refine wc_loop (fun mz ac w1 => ∃ (j : Nat) (fb : Bool), mz = (endsI (l.take 24 ++ [({ x with sup := id0 } : RR)]) (fun id => !wdB (l.take 24 ++ [({ x with sup := id0 } : RR)]) id)).length - j ∧ (j ≤ (endsI (l.take 24 ++ [({ x with sup := id0 } : RR)]) (fun id => !wdB (l.take 24 ++ [({ x with sup := id0 } : RR)]) id)).length) ∧ (fb = decide (x.id ∈ (endsI (l.take 24 ++ [({ x with sup := id0 } : RR)]) (fun id => !wdB (l.take 24 ++ [({ x with sup := id0 } : RR)]) id)).take j)) ∧ St 81 w [] [(3, ptr b3), (8, g8.v), (10, .bool fb), (11, I j)] ((b3, .cells (rrC ({ x with sup := id0 } : RR)) 46 (0, 0)) :: ν8) ac w1) _ (fun ac w1 hs => ⟨0, false, rfl, (by omega), (by simp), st_sub hs _ rfl⟩) ?_
      rintro _ ac2 wl2 ⟨j, fb, rfl, hj, hfb, hs2⟩
      refine wc_at hs2 ?_
      have hel : (endsI (l.take 24 ++ [({ x with sup := id0 } : RR)]) (fun id => !wdB (l.take 24 ++ [({ x with sup := id0 } : RR)]) id)).length ≤ (l.take 24 ++ [({ x with sup := id0 } : RR)]).length := endsF_len _ _
      simp only [List.length_append, List.length_singleton] at hel
      refine wc_seq ?_
      refine wc_seq ?_
      refine wc_plain [(0, .x true), (1, .x true), (2, .x true), (3, .x true)] (by kernel_rfl) ?_
      refine ws_l rfl rfl rfl rfl (rd_move rfl) ?_
      refine ws_l rfl rfl rfl rfl (rd_move rfl) ?_
      refine ws_l rfl rfl rfl rfl (rd_lenO hown8 rfl Try.underlying26) ?_
      refine ws_lcmp rfl rfl rfl (rfl) (rfl) (rfl) ?_ ?_
      · intro h64
        refine ws_nil ?_
        refine qe_then ?_
        refine wc_true rfl ?_
        refine wc_skip ?_
        refine qe_then ?_
        refine wc_seq ?_
        refine wc_block ?_
        refine wc_drawn mixedT _ (fun _ h => h) [(0, .r), (1, .r), (2, .r), (3, .r), (4, .r), (5, .r), (6, .r), (7, .r), (8, .x true), (9, .x true), (10, .x true)] (by kernel_rfl) ?_
        cases fb
        ·
          refine ws_r rfl rfl rfl rfl (rd_move rfl) ?_
          refine ws_r rfl rfl rfl rfl (rd_move rfl) ?_
          refine ws_r rfl rfl rfl rfl (rd_move rfl) ?_
          refine ws_r rfl rfl rfl rfl (rd_move rfl) ?_
          obtain ⟨b8, o8, c8, cs8, E8, fr8, hv8, hm8, hc8⟩ := Src.opened hown8.src (by omega)
          have hmi8 : HM b8 (.cells cs8 E8 fr8) ν8 := ⟨hm8⟩
          obtain ⟨y, hy⟩ := at_ex (l := (endsI (l.take 24 ++ [({ x with sup := id0 } : RR)]) (fun id => !wdB (l.take 24 ++ [({ x with sup := id0 } : RR)]) id))) (j := j) (by omega)
          have at8 : ReadsAt Try.prog 38 cs8 (o8 + j * 32) (idK y) := ids_src hc8 hy
          rw [hv8]
          refine ws_r rfl rfl rfl rfl (rd_index (o8 + j * 32) rfl rfl Try.underlying26 Try.sizeOf38 ⟨by omega, by omega⟩ (by simp)) ?_
          refine ws_r rfl rfl rfl rfl (rd_load rfl) ?_
          refine ws_r rfl rfl rfl rfl (rd_fieldAddr rfl) ?_
          refine ws_r rfl rfl rfl rfl (rd_load rfl) ?_
          refine ws_late rfl ?_
          refine ws_lp _ rfl rfl rfl rfl (rd_eqid rfl rfl Try.underlying38 (by kernel_rfl)) ?_ ?_
          · intro h75
            refine ws_l rfl rfl rfl rfl (rd_pick_f rfl rfl) ?_
            refine ws_l rfl rfl rfl rfl (rd_assign rfl) ?_
            refine ws_nil ?_
            refine qe_block ?_
            refine qe_then ?_
            refine wc_plain [(0, .x true), (1, .x true), (2, .x true)] (by kernel_rfl) ?_
            refine ws_l rfl rfl rfl rfl (rd_move rfl) ?_
            refine ws_l rfl rfl rfl rfl (rd_arith (((j + 1 : Nat) : Int)) rfl rfl rfl (by rw [wrap_i64 _ (by omega) (by omega)]; omega)) ?_
            refine ws_l rfl rfl rfl rfl (rd_assign rfl) ?_
            refine ws_nil ?_
            exact qe_loop fun ac2 w2 hs2 => ⟨_, by omega, j + 1, true, rfl, (by omega), (by rw [take_at hy]; exact (decide_eq_true (List.mem_append_right _ (List.mem_singleton.2 h75.symm))).symm), st_sub hs2 _ rfl⟩
          · intro h75
            refine ws_l rfl rfl rfl rfl (rd_pick_f rfl rfl) ?_
            refine ws_l rfl rfl rfl rfl (rd_assign rfl) ?_
            refine ws_nil ?_
            refine qe_block ?_
            refine qe_then ?_
            refine wc_plain [(0, .x true), (1, .x true), (2, .x true)] (by kernel_rfl) ?_
            refine ws_l rfl rfl rfl rfl (rd_move rfl) ?_
            refine ws_l rfl rfl rfl rfl (rd_arith (((j + 1 : Nat) : Int)) rfl rfl rfl (by rw [wrap_i64 _ (by omega) (by omega)]; omega)) ?_
            refine ws_l rfl rfl rfl rfl (rd_assign rfl) ?_
            refine ws_nil ?_
            exact qe_loop fun ac2 w2 hs2 => ⟨_, by omega, j + 1, false, rfl, (by omega), (by rw [take_at hy]; have := of_decide_eq_false hfb.symm; simp only [List.mem_append, List.mem_singleton]; exact (decide_eq_false (fun h => h.elim this (fun e => h75 e.symm))).symm), st_sub hs2 _ rfl⟩
        ·
          refine ws_r rfl rfl rfl rfl (rd_move rfl) ?_
          refine ws_r rfl rfl rfl rfl (rd_move rfl) ?_
          refine ws_rskip rfl rfl rfl rfl ?_
          refine ws_rskip rfl rfl rfl rfl ?_
          refine ws_rskip rfl rfl rfl rfl ?_
          refine ws_rskip rfl rfl rfl rfl ?_
          refine ws_rskip rfl rfl rfl rfl ?_
          refine ws_rskip rfl rfl rfl rfl ?_
          refine ws_late rfl ?_
          refine ws_xskip rfl rfl rfl rfl ?_
          refine ws_l rfl rfl rfl rfl (rd_pick_t rfl rfl) ?_
          refine ws_l rfl rfl rfl rfl (rd_assign rfl) ?_
          refine ws_nil ?_
          refine qe_block ?_
          refine qe_then ?_
          refine wc_plain [(0, .x true), (1, .x true), (2, .x true)] (by kernel_rfl) ?_
          refine ws_l rfl rfl rfl rfl (rd_move rfl) ?_
          refine ws_l rfl rfl rfl rfl (rd_arith (((j + 1 : Nat) : Int)) rfl rfl rfl (by rw [wrap_i64 _ (by omega) (by omega)]; omega)) ?_
          refine ws_l rfl rfl rfl rfl (rd_assign rfl) ?_
          refine ws_nil ?_
          exact qe_loop fun ac2 w2 hs2 => ⟨_, by omega, j + 1, true, rfl, (by omega), (by have := of_decide_eq_true hfb.symm; exact (decide_eq_true (take_mono (by omega) this)).symm), st_sub hs2 _ rfl⟩
      · intro h64
        refine ws_nil ?_
        refine qe_then ?_
        refine wc_false rfl ?_
        refine wc_exit ?_
        refine qe_then_exit ?_
        refine qe_then_exit ?_
        refine qe_block_exit ?_
        refine qe_then ?_
        refine wc_keep [(10, _)] rfl ?_
        refine wc_seq ?_
        refine wc_plain [(0, .x true), (1, .x true), (2, .x true), (3, .x true), (4, .x true)] (by kernel_rfl) ?_
        refine ws_callp rfl rfl rfl rfl rfl (En.go) (fun w hp hn ho => known_ret w) ?_
        refine ws_l rfl rfl rfl rfl (rd_move rfl) ?_
        have hje : j = (endsI (l.take 24 ++ [({ x with sup := id0 } : RR)]) (fun id => !wdB (l.take 24 ++ [({ x with sup := id0 } : RR)]) id)).length := by simp only [cmpP] at h64; omega
        rw [List.take_of_length_le (by omega), endsI, if_pos hchk, decide_eq_true (alone_end hchk rfl (fun y hy => by rw [← hrows] at hy; obtain ⟨z, hz, rfl⟩ := List.mem_map.1 hy; exact (hno z hz).1))] at hfb
        subst hfb
        refine ws_l rfl rfl rfl rfl (rd_move rfl) ?_
        refine ws_l rfl rfl rfl rfl (rd_pick_t rfl rfl) ?_
        refine ws_l rfl rfl rfl rfl (rd_assign rfl) ?_
        refine ws_nil ?_
        refine qe_then ?_
        refine wc_keep [(4, _)] rfl ?_
        refine wc_ret ?_
        refine qe_body _ (.inl rfl) (res1 rfl (RV.tmp rfl)) ?_
        exact ret_end fun w hp hn ho => rfl
    ·
      refine ws_l rfl rfl rfl rfl (rd_cmp_t rfl rfl rfl (by simp only [cmpP]; omega)) ?_
      rw [endsI, if_neg hchk] at hown8
      refine ws_nil ?_
      refine qe_then ?_
      refine wc_true rfl ?_
      refine wc_seq ?_
      refine wc_plain [(0, .x true), (1, .x true), (2, .x true), (3, .x true), (4, .x true), (5, .x true), (6, .x true)] (by kernel_rfl) ?_
      refine ws_callp rfl rfl rfl rfl rfl (En.go) (fun w hp hn ho => known_ret w) ?_
      refine ws_l rfl rfl rfl rfl (rd_move rfl) ?_
      refine ws_l rfl rfl rfl rfl (rd_move rfl) ?_
      refine ws_l rfl rfl rfl rfl (rd_lenO hown8 rfl Try.underlying26) ?_
      refine ws_l rfl rfl rfl rfl (rd_cmp_t rfl rfl rfl (by simp [cmpP])) ?_
      refine ws_l rfl rfl rfl rfl (rd_pick_t rfl rfl) ?_
      refine ws_l rfl rfl rfl rfl (rd_assign rfl) ?_
      refine ws_nil ?_
      refine qe_then ?_
      refine wc_keep [(3, _), (4, _), (8, _)] rfl ?_
      refine wc_ret ?_
      refine qe_then_ret ?_
      refine qe_body _ (.inl rfl) (res1 rfl (RV.tmp rfl)) ?_
      exact ret_end fun w hp hn ho => rfl

end Go.Proofs.Ytaagmgpfpaanlaa
