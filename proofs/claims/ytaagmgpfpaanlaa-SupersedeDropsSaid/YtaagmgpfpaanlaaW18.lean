/- Walk: SupersedeDrops. No conditions. -/
import Derived.Test.YtaagmgpfpaanlaaW17
import Derived.Test.YtaagmgpfpaanlaaW16
namespace Go.Proofs.Ytaagmgpfpaanlaa
open Go Go.RowKit Go.Sx
set_option linter.unusedSimpArgs false
set_option linter.unusedVariables false

set_option maxRecDepth 100000 in
set_option maxHeartbeats 4000000 in
theorem supersedeDrops_ret (v : Value) (φ : Heap) (l : List RR) (hsrc : Src φ v 82 l.length (l.flatMap rrL)) (hcap : CapOK v l.length) (wn : UInt8) (w : World) (hφ : HpOK φ w) (hnd : (φ.map Prod.fst).Nodup) : Ret Try.prog 9 [v, u8v wn] w [] (fun u _ => u = .bool true) := by
  refine enter (n := 117) (args := [v, u8v wn]) [] φ Try.func9 rfl rfl rfl hφ hnd ?_
  refine wc_seq ?_
  refine wc_plain [(0, .x true)] (by kernel_rfl) ?_
  refine ws_l rfl rfl rfl rfl (rd_assign rfl) ?_
  refine ws_nil ?_
  refine qe_then ?_
  refine wc_seq ?_
  refine wc_plain [(0, .x true), (1, .x true), (2, .x true), (3, .x true), (4, .x true), (5, .x true), (6, .x true)] (by kernel_rfl) ?_
  refine ws_l rfl rfl rfl rfl (rd_move rfl) ?_
  refine ws_call rfl rfl rfl rfl rfl (En.go) (fun w hp hn ho => rows_law v φ l hsrc hcap w (hp.mono SubH.mem) hnd) (fun _ h => by cases h) (fun hh q h => by first | (cases h; done) | exact hh q h) ?_
  rintro v15 wa wb hpo hon hon2 hp1 ⟨hs, v4, u10, ν4, νg, rfl, hrows, hrp, hrn, hrf, hrown, hrgs, hu10, hc10⟩
  refine ⟨ν4 ++ νg, hrp, hrn, fun b hb => .inl (hrf b hb), ?_⟩
  have hl24 : (l.take 24).length ≤ 24 := by rw [List.length_take]; omega
  have hsl : hs.length = (l.take 24).length := by rw [← hrows, List.length_map]
  replace hrown := hrown.mono hon.size
  rw [List.append_assoc]
  have hrsrc : Src (ν4 ++ (νg ++ φ)) v4 83 hs.length (hs.flatMap hrL) := hrown.src.mono (fun q hq => List.mem_append_left _ hq)
  have hrg : ∀ x ∈ hs, GOK (ν4 ++ (νg ++ φ)) x.g x.r.grp := fun x hx => (hrgs x hx).mono (fun q hq => List.mem_append_right _ (List.mem_append_left _ hq))
  refine ws_l rfl rfl rfl rfl (rd_move rfl) ?_
  refine ws_l rfl rfl rfl rfl (rd_extract rfl) ?_
  refine ws_l rfl rfl rfl rfl (rd_extract rfl) ?_
  refine ws_l rfl rfl rfl rfl (rd_assign rfl) ?_
  refine ws_l rfl rfl rfl rfl (rd_assign rfl) ?_
  refine ws_nil ?_
  refine qe_then ?_
  refine wc_keep [(1, _), (4, _), (5, _)] rfl ?_
  refine wc_seq ?_
  refine wc_seq ?_
  refine wc_plain [(0, .x true), (1, .x true), (2, .x true), (3, .x true), (4, .x true), (5, .x true), (6, .x true)] (by kernel_rfl) ?_
  refine ws_callp rfl rfl rfl rfl rfl (En.go) (fun w hp hn ho => known_ret w) ?_
  refine ws_l rfl rfl rfl rfl (rd_not rfl) ?_
  refine ws_l rfl rfl rfl rfl (rd_move rfl) ?_
  refine ws_l rfl rfl rfl rfl (rd_move rfl) ?_
  refine ws_l rfl rfl rfl rfl (rd_lenS hrsrc rfl Try.underlying23) ?_
  refine ws_lcmp rfl rfl rfl (rfl) (rfl) (rfl) ?_ ?_
  · intro h23
    refine ws_l rfl rfl rfl rfl (rd_pick_f rfl rfl) ?_
    refine ws_nil ?_
    refine qe_then ?_
    refine wc_keep [(1, _), (4, _), (5, _), (24, _)] rfl ?_
    refine wc_true rfl ?_
    refine wc_seq ?_
    refine wc_plain [(0, .x true), (1, .x true)] (by kernel_rfl) ?_
    refine ws_callp rfl rfl rfl rfl rfl (En.go) (fun w hp hn ho => known_ret w) ?_
    refine ws_l rfl rfl rfl rfl (rd_assign rfl) ?_
    refine ws_nil ?_
    refine qe_then ?_
    refine wc_ret ?_
    refine qe_then_ret ?_
    refine qe_body _ (.inl rfl) (res1 rfl (RV.tmp rfl)) ?_
    exact ret_end fun w hp hn ho => rfl
  · intro h23
    refine ws_l rfl rfl rfl rfl (rd_pick_f rfl rfl) ?_
    refine ws_nil ?_
    refine qe_then ?_
    refine wc_keep [(1, _), (4, _), (5, _), (24, _)] rfl ?_
    refine wc_false rfl ?_
    refine wc_skip ?_
    refine qe_then ?_
    refine wc_seq ?_
    refine wc_plain [(0, .x true), (1, .x true), (2, .x true), (3, .x true), (4, .x true), (5, .x true), (6, .x true)] (by kernel_rfl) ?_
    refine ws_l rfl rfl rfl rfl (rd_move rfl) ?_
    refine ws_call rfl rfl rfl rfl rfl (En.go) (fun w hp hn ho => set_law v4 (ν4 ++ (νg ++ φ)) hs hrsrc (by omega) hrg w (hp.mono SubH.mem) (SubH.nd hn)) (fun _ h => by cases h) (fun hh q h => by first | (cases h; done) | exact hh q h) ?_
    rintro v28 wa wb hpo hon hon2 hp1 ⟨s0, okb, own0, rfl, hsn, hso⟩
    obtain ⟨p, m, k, es, c, ws, d, L, W, νs, rfl, hset, hsnd, hsfar, hL, hW, hok⟩ := hsn
    refine ⟨_, hset, hsnd, fun b hb => .inl (hsfar b hb), ?_⟩
    simp only [List.cons_append]
    have hpb := Nat.le_trans hon.size (hsfar p (by simp))
    have hmb := Nat.le_trans hon.size (hsfar m (by simp))
    have hkb := Nat.le_trans hon.size (hsfar k (by simp))
    have hsnf : ∀ b ∈ νs.map Prod.fst, _ ≤ b := fun b hb => Nat.le_trans hon.size (hsfar b (by simp only [List.map_cons, List.mem_cons]; exact .inr (.inr (.inr hb))))
    cases okb
    ·
      refine ws_l rfl rfl rfl rfl (rd_move rfl) ?_
      refine ws_l rfl rfl rfl rfl (rd_extract rfl) ?_
      refine ws_l rfl rfl rfl rfl (rd_extract rfl) ?_
      refine ws_l rfl rfl rfl rfl (rd_assign rfl) ?_
      refine ws_l rfl rfl rfl rfl (rd_assign rfl) ?_
      refine ws_nil ?_
      refine qe_then ?_
      refine wc_keep [(1, _), (4, _), (5, _), (7, _), (8, _)] rfl ?_
      refine wc_seq ?_
      refine wc_plain [(0, .x true), (1, .x true), (2, .x true), (3, .x true), (4, .x true), (5, .x true)] (by kernel_rfl) ?_
      refine ws_l rfl rfl rfl rfl (rd_move rfl) ?_
      refine ws_l rfl rfl rfl rfl (rd_conv rfl (run_conv_int ((wn.toNat : Nat) : Int) Try.underlying5 Try.underlying3 (wrap_i64 _ (by omega) (by have := wn.toNat_lt; omega)))) ?_
      refine ws_l rfl rfl rfl rfl (rd_move rfl) ?_
      have hpos : 0 < hs.length := by simp only [cmpP] at h23; omega
      obtain ⟨bv, ov, cv, csv, Ev, frv, rfl, hmv, hcv⟩ := Src.opened hrsrc hpos
      have hmiv : HM bv (.cells csv Ev frv) (ν4 ++ (νg ++ φ)) := ⟨hmv⟩
      refine ws_l rfl rfl rfl rfl (rd_len rfl Try.underlying23) ?_
      refine ws_l rfl rfl rfl rfl (rd_rem ((wn.toNat % hs.length : Nat) : Int) rfl rfl (by omega) (by rw [Int.tmod_eq_emod_of_nonneg (by omega)]; rfl)) ?_
      have hat : wn.toNat % hs.length < hs.length := Nat.mod_lt _ hpos
      generalize wn.toNat % hs.length = at0 at hat ⊢
      obtain ⟨xt, hxt⟩ := at_ex (l := hs) hat
      have atxt : AtW csv (ov + at0 * 83) xt.r xt.g := at_w hcv hxt
      have htm : xt.r ∈ l.take 24 := by rw [← hrows]; exact List.mem_map.2 ⟨xt, List.mem_of_getElem? hxt, rfl⟩
      refine ws_l rfl rfl rfl rfl (rd_assign rfl) ?_
      refine ws_nil ?_
      refine qe_then ?_
      refine wc_keep [(4, _), (5, _), (7, _), (8, _), (9, _)] rfl ?_
      refine wc_seq ?_
      refine wc_seq ?_
      refine wc_plain [(0, .x true)] (by kernel_rfl) ?_
      refine ws_l rfl rfl rfl rfl (rd_assign rfl) ?_
      refine ws_nil ?_
      refine qe_then ?_
      refine wc_block ?_
      refine wc_loop (fun mz ac w1 => ∃ (i : Nat), mz = hs.length - i ∧ (i ≤ hs.length) ∧ (∀ q y, q < i → q ≠ at0 → hs[q]? = some y → ¬ valB y.r xt.r ∧ ¬ outB xt.r y.r) ∧ St 117 w [] [(5, .slice (some ⟨bv, ov, none⟩) hs.length cv), (7, ptr p), (8, .bool false), (9, I at0), (10, I i)] (setC p m k es c ws d (νs ++ (ν4 ++ (νg ++ φ)))) ac w1) _ (fun ac w1 hs => ⟨0, rfl, (by omega), (by omega), st_sub hs _ rfl⟩) ?_
      rintro _ ac1 wl1 ⟨i, rfl, hi, hno, hs1⟩
      refine wc_at hs1 ?_
      refine wc_seq ?_
      refine wc_seq ?_
      refine wc_plain [(0, .x true), (1, .x true), (2, .x true), (3, .x true), (4, .x true), (5, .x true), (6, .x true)] (by kernel_rfl) ?_
      refine ws_l rfl rfl rfl rfl (rd_move rfl) ?_
      refine ws_l rfl rfl rfl rfl (rd_move rfl) ?_
      refine ws_l rfl rfl rfl rfl (rd_len rfl Try.underlying23) ?_
      refine ws_lcmp rfl rfl rfl (rfl) (rfl) (rfl) ?_ ?_
      · intro h39
        refine ws_l rfl rfl rfl rfl (rd_move rfl) ?_
        refine ws_l rfl rfl rfl rfl (rd_move rfl) ?_
        refine ws_l rfl rfl rfl rfl (rd_pick_t rfl rfl) ?_
        refine ws_nil ?_
        refine qe_then ?_
        refine wc_false rfl ?_
        refine wc_exit ?_
        refine qe_then_exit ?_
        refine qe_then_exit ?_
        refine qe_block_exit ?_
        refine qe_then ?_
        refine wc_keep [(5, _), (7, _), (8, _), (9, _)] rfl ?_
        refine wc_seq ?_
        refine wc_seq ?_
        refine wc_plain [(0, .x true), (1, .x true)] (by kernel_rfl) ?_
        refine ws_l rfl rfl rfl rfl (rd_move rfl) ?_
        refine ws_l rfl rfl rfl rfl (rd_not rfl) ?_
        refine ws_nil ?_
        refine qe_then ?_
        refine wc_true rfl ?_
        refine wc_seq ?_
        refine wc_plain [(0, .x true)] (by kernel_rfl) ?_
        refine ws_l rfl rfl rfl rfl (rd_assign rfl) ?_
        refine ws_nil ?_
        refine qe_then ?_
        refine wc_ret ?_
        refine qe_then_ret ?_
        refine qe_body _ (.inl rfl) (res1 rfl (RV.tmp rfl)) ?_
        exact ret_end fun w hp hn ho => rfl
      · intro h39
        refine ws_l rfl rfl rfl rfl (rd_move rfl) ?_
        refine ws_xskip rfl rfl rfl rfl ?_
        refine ws_l rfl rfl rfl rfl (rd_pick_f rfl rfl) ?_
        refine ws_nil ?_
        refine qe_then ?_
        refine wc_false rfl ?_
        refine wc_exit ?_
        refine qe_then_exit ?_
        refine qe_then_exit ?_
        refine qe_block_exit ?_
        refine qe_then ?_
        refine wc_keep [(5, _), (7, _), (8, _), (9, _)] rfl ?_
        refine wc_seq ?_
        refine wc_seq ?_
        refine wc_plain [(0, .x true), (1, .x true)] (by kernel_rfl) ?_
        refine ws_l rfl rfl rfl rfl (rd_move rfl) ?_
        refine ws_l rfl rfl rfl rfl (rd_not rfl) ?_
        refine ws_nil ?_
        refine qe_then ?_
        refine wc_true rfl ?_
        refine wc_seq ?_
        refine wc_plain [(0, .x true)] (by kernel_rfl) ?_
        refine ws_l rfl rfl rfl rfl (rd_assign rfl) ?_
        refine ws_nil ?_
        refine qe_then ?_
        refine wc_ret ?_
        refine qe_then_ret ?_
        refine qe_body _ (.inl rfl) (res1 rfl (RV.tmp rfl)) ?_
        exact ret_end fun w hp hn ho => rfl
    ·
      obtain rfl := (hso rfl).trans hrows
      refine ws_l rfl rfl rfl rfl (rd_move rfl) ?_
      refine ws_l rfl rfl rfl rfl (rd_extract rfl) ?_
      refine ws_l rfl rfl rfl rfl (rd_extract rfl) ?_
      refine ws_l rfl rfl rfl rfl (rd_assign rfl) ?_
      refine ws_l rfl rfl rfl rfl (rd_assign rfl) ?_
      refine ws_nil ?_
      refine qe_then ?_
      refine wc_keep [(1, _), (4, _), (5, _), (7, _), (8, _)] rfl ?_
      refine wc_seq ?_
      refine wc_plain [(0, .x true), (1, .x true), (2, .x true), (3, .x true), (4, .x true), (5, .x true)] (by kernel_rfl) ?_
      refine ws_l rfl rfl rfl rfl (rd_move rfl) ?_
      refine ws_l rfl rfl rfl rfl (rd_conv rfl (run_conv_int ((wn.toNat : Nat) : Int) Try.underlying5 Try.underlying3 (wrap_i64 _ (by omega) (by have := wn.toNat_lt; omega)))) ?_
      refine ws_l rfl rfl rfl rfl (rd_move rfl) ?_
      have hpos : 0 < hs.length := by simp only [cmpP] at h23; omega
      obtain ⟨bv, ov, cv, csv, Ev, frv, rfl, hmv, hcv⟩ := Src.opened hrsrc hpos
      have hmiv : HM bv (.cells csv Ev frv) (ν4 ++ (νg ++ φ)) := ⟨hmv⟩
      refine ws_l rfl rfl rfl rfl (rd_len rfl Try.underlying23) ?_
      refine ws_l rfl rfl rfl rfl (rd_rem ((wn.toNat % hs.length : Nat) : Int) rfl rfl (by omega) (by rw [Int.tmod_eq_emod_of_nonneg (by omega)]; rfl)) ?_
      have hat : wn.toNat % hs.length < hs.length := Nat.mod_lt _ hpos
      generalize wn.toNat % hs.length = at0 at hat ⊢
      obtain ⟨xt, hxt⟩ := at_ex (l := hs) hat
      have atxt : AtW csv (ov + at0 * 83) xt.r xt.g := at_w hcv hxt
      have htm : xt.r ∈ l.take 24 := by rw [← hrows]; exact List.mem_map.2 ⟨xt, List.mem_of_getElem? hxt, rfl⟩
      refine ws_l rfl rfl rfl rfl (rd_assign rfl) ?_
      refine ws_nil ?_
      refine qe_then ?_
      refine wc_keep [(4, _), (5, _), (7, _), (8, _), (9, _)] rfl ?_
      refine wc_seq ?_
      refine wc_seq ?_
      refine wc_plain [(0, .x true)] (by kernel_rfl) ?_
      refine ws_l rfl rfl rfl rfl (rd_assign rfl) ?_
      refine ws_nil ?_
      refine qe_then ?_
      refine wc_block ?_
      refine wc_loop (fun mz ac w1 => ∃ (i : Nat), mz = hs.length - i ∧ (i ≤ hs.length) ∧ (∀ q y, q < i → q ≠ at0 → hs[q]? = some y → ¬ valB y.r xt.r ∧ ¬ outB xt.r y.r) ∧ St 117 w [] [(5, .slice (some ⟨bv, ov, none⟩) hs.length cv), (7, ptr p), (8, .bool true), (9, I at0), (10, I i)] (setC p m k es c ws d (νs ++ (ν4 ++ (νg ++ φ)))) ac w1) _ (fun ac w1 hs => ⟨0, rfl, (by omega), (by omega), st_sub hs _ rfl⟩) ?_
      rintro _ ac2 wl2 ⟨i, rfl, hi, hno, hs2⟩
      refine wc_at hs2 ?_
      refine wc_seq ?_
      refine wc_seq ?_
      refine wc_plain [(0, .x true), (1, .x true), (2, .x true), (3, .x true), (4, .x true), (5, .x true), (6, .x true)] (by kernel_rfl) ?_
      refine ws_l rfl rfl rfl rfl (rd_move rfl) ?_
      refine ws_l rfl rfl rfl rfl (rd_move rfl) ?_
      refine ws_l rfl rfl rfl rfl (rd_len rfl Try.underlying23) ?_
      refine ws_lcmp rfl rfl rfl (rfl) (rfl) (rfl) ?_ ?_
      · intro h39
        refine ws_l rfl rfl rfl rfl (rd_move rfl) ?_
        refine ws_l rfl rfl rfl rfl (rd_move rfl) ?_
        refine ws_l rfl rfl rfl rfl (rd_pick_t rfl rfl) ?_
        refine ws_nil ?_
        refine qe_then ?_
        refine wc_true rfl ?_
        refine wc_skip ?_
        refine qe_then ?_
        refine wc_seq ?_
        refine wc_block ?_
        refine wc_seq ?_
        refine wc_drawn mixedT _ (fun _ h => h) [(0, .r), (1, .r), (2, .r), (3, .r), (4, .r), (5, .r), (6, .r), (7, .r), (8, .r), (9, .r), (10, .r), (11, .r), (12, .x false), (13, .r), (14, .r), (15, .r), (16, .r), (17, .r), (18, .r), (19, .r), (20, .r), (21, .r), (22, .x true), (23, .x true), (24, .x true)] (by kernel_rfl) ?_
        refine ws_r rfl rfl rfl rfl (rd_move rfl) ?_
        refine ws_r rfl rfl rfl rfl (rd_move rfl) ?_
        refine ws_rcmp rfl rfl rfl (rfl) (rfl) (rfl) ?_ ?_
        · intro h47
          refine ws_r rfl rfl rfl rfl (rd_move rfl) ?_
          refine ws_r rfl rfl rfl rfl (rd_move rfl) ?_
          refine ws_r rfl rfl rfl rfl (rd_move rfl) ?_
          obtain ⟨xi, hxi⟩ := at_ex (l := hs) (j := i) (by omega)
          have atxi : AtW csv (ov + i * 83) xi.r xi.g := at_w hcv hxi
          refine ws_r rfl rfl rfl rfl (rd_index (ov + i * 83) rfl rfl Try.underlying23 Try.sizeOf43 ⟨by omega, by omega⟩ (by simp)) ?_
          refine ws_r rfl rfl rfl rfl (rd_load rfl) ?_
          refine ws_r rfl rfl rfl rfl (rd_move rfl) ?_
          refine ws_r rfl rfl rfl rfl (rd_move rfl) ?_
          refine ws_r rfl rfl rfl rfl (rd_index (ov + at0 * 83) rfl rfl Try.underlying23 Try.sizeOf43 ⟨by omega, by omega⟩ (by simp)) ?_
          refine ws_r rfl rfl rfl rfl (rd_load rfl) ?_
          refine ws_callb (decide _) rfl rfl rfl rfl rfl (En.go) (fun w hp hn ho => valid_ret xi.r xt.r xi.g xt.g (ν4 ++ (νg ++ φ)) (hrg _ (List.mem_of_getElem? hxi)) (hrg _ (List.mem_of_getElem? hxt)) w (hp.mono SubH.mem) (SubH.nd hn)) ?_ ?_
          · intro hval
            refine ws_r rfl rfl rfl rfl (rd_move rfl) ?_
            refine ws_rskip rfl rfl rfl rfl ?_
            refine ws_rskip rfl rfl rfl rfl ?_
            refine ws_rskip rfl rfl rfl rfl ?_
            refine ws_rskip rfl rfl rfl rfl ?_
            refine ws_rskip rfl rfl rfl rfl ?_
            refine ws_rskip rfl rfl rfl rfl ?_
            refine ws_rskip rfl rfl rfl rfl ?_
            refine ws_rskip rfl rfl rfl rfl ?_
            refine ws_late rfl ?_
            refine ws_xskip rfl rfl rfl rfl ?_
            refine ws_l rfl rfl rfl rfl (rd_pick_t rfl rfl) ?_
            refine ws_l rfl rfl rfl rfl (rd_pick_t rfl rfl) ?_
            refine ws_nil ?_
            refine qe_then ?_
            refine wc_true rfl ?_
            refine wc_seq ?_
            refine wc_plain [(0, .x true)] (by kernel_rfl) ?_
            refine ws_l rfl rfl rfl rfl (rd_assign rfl) ?_
            refine ws_nil ?_
            refine qe_then ?_
            refine wc_ret ?_
            refine qe_block_ret ?_
            refine qe_then_ret ?_
            refine qe_then_ret ?_
            refine qe_block_ret ?_
            refine qe_then_ret ?_
            refine qe_body _ (.inl rfl) (res1 rfl (RV.tmp rfl)) ?_
            exact ret_end fun w hp hn ho => rfl
          · intro hval
            refine ws_r rfl rfl rfl rfl (rd_move rfl) ?_
            refine ws_r rfl rfl rfl rfl (rd_move rfl) ?_
            refine ws_r rfl rfl rfl rfl (rd_move rfl) ?_
            refine ws_r rfl rfl rfl rfl (rd_index (ov + at0 * 83) rfl rfl Try.underlying23 Try.sizeOf43 ⟨by omega, by omega⟩ (by simp)) ?_
            refine ws_r rfl rfl rfl rfl (rd_load rfl) ?_
            refine ws_r rfl rfl rfl rfl (rd_move rfl) ?_
            refine ws_r rfl rfl rfl rfl (rd_move rfl) ?_
            refine ws_r rfl rfl rfl rfl (rd_index (ov + i * 83) rfl rfl Try.underlying23 Try.sizeOf43 ⟨by omega, by omega⟩ (by simp)) ?_
            refine ws_r rfl rfl rfl rfl (rd_load rfl) ?_
            refine ws_late rfl ?_
            refine ws_callb (decide _) rfl rfl rfl rfl rfl (En.go) (fun w hp hn ho => outdoes_ret xt.r xi.r xt.g xi.g (ν4 ++ (νg ++ φ)) (hrg _ (List.mem_of_getElem? hxt)) (hrg _ (List.mem_of_getElem? hxi)) w (hp.mono SubH.mem) (SubH.nd hn)) ?_ ?_
            · intro hout
              refine ws_l rfl rfl rfl rfl (rd_pick_f rfl rfl) ?_
              refine ws_l rfl rfl rfl rfl (rd_pick_t rfl rfl) ?_
              refine ws_nil ?_
              refine qe_then ?_
              refine wc_true rfl ?_
              refine wc_seq ?_
              refine wc_plain [(0, .x true)] (by kernel_rfl) ?_
              refine ws_l rfl rfl rfl rfl (rd_assign rfl) ?_
              refine ws_nil ?_
              refine qe_then ?_
              refine wc_ret ?_
              refine qe_block_ret ?_
              refine qe_then_ret ?_
              refine qe_then_ret ?_
              refine qe_block_ret ?_
              refine qe_then_ret ?_
              refine qe_body _ (.inl rfl) (res1 rfl (RV.tmp rfl)) ?_
              exact ret_end fun w hp hn ho => rfl
            · intro hout
              refine ws_l rfl rfl rfl rfl (rd_pick_f rfl rfl) ?_
              refine ws_l rfl rfl rfl rfl (rd_pick_t rfl rfl) ?_
              refine ws_nil ?_
              refine qe_then ?_
              refine wc_false rfl ?_
              refine wc_skip ?_
              refine qe_block ?_
              refine qe_then ?_
              refine wc_plain [(0, .x true), (1, .x true), (2, .x true)] (by kernel_rfl) ?_
              refine ws_l rfl rfl rfl rfl (rd_move rfl) ?_
              refine ws_l rfl rfl rfl rfl (rd_arith (((i + 1 : Nat) : Int)) rfl rfl rfl (by rw [wrap_i64 _ (by omega) (by omega)]; omega)) ?_
              refine ws_l rfl rfl rfl rfl (rd_assign rfl) ?_
              refine ws_nil ?_
              exact qe_loop fun ac2 w2 hs2 => ⟨_, by omega, i + 1, rfl, (by omega), (fun q y hq hqa hy => if hqi : q < i then hno q y hqi hqa hy else by obtain rfl : q = i := (by omega); rw [hxi] at hy; cases hy; exact ⟨of_decide_eq_false hval, of_decide_eq_false hout⟩), st_sub hs2 _ rfl⟩
        · intro h47
          refine ws_r rfl rfl rfl rfl (rd_move rfl) ?_
          refine ws_rskip rfl rfl rfl rfl ?_
          refine ws_rskip rfl rfl rfl rfl ?_
          refine ws_rskip rfl rfl rfl rfl ?_
          refine ws_rskip rfl rfl rfl rfl ?_
          refine ws_rskip rfl rfl rfl rfl ?_
          refine ws_rskip rfl rfl rfl rfl ?_
          refine ws_rskip rfl rfl rfl rfl ?_
          refine ws_rskip rfl rfl rfl rfl ?_
          refine ws_xskip rfl rfl rfl rfl ?_
          refine ws_rskip rfl rfl rfl rfl ?_
          refine ws_rskip rfl rfl rfl rfl ?_
          refine ws_rskip rfl rfl rfl rfl ?_
          refine ws_rskip rfl rfl rfl rfl ?_
          refine ws_rskip rfl rfl rfl rfl ?_
          refine ws_rskip rfl rfl rfl rfl ?_
          refine ws_rskip rfl rfl rfl rfl ?_
          refine ws_rskip rfl rfl rfl rfl ?_
          refine ws_rskip rfl rfl rfl rfl ?_
          refine ws_late rfl ?_
          refine ws_xskip rfl rfl rfl rfl ?_
          refine ws_xskip rfl rfl rfl rfl ?_
          refine ws_l rfl rfl rfl rfl (rd_pick_f rfl rfl) ?_
          refine ws_nil ?_
          refine qe_then ?_
          refine wc_false rfl ?_
          refine wc_skip ?_
          refine qe_block ?_
          refine qe_then ?_
          refine wc_plain [(0, .x true), (1, .x true), (2, .x true)] (by kernel_rfl) ?_
          refine ws_l rfl rfl rfl rfl (rd_move rfl) ?_
          refine ws_l rfl rfl rfl rfl (rd_arith (((i + 1 : Nat) : Int)) rfl rfl rfl (by rw [wrap_i64 _ (by omega) (by omega)]; omega)) ?_
          refine ws_l rfl rfl rfl rfl (rd_assign rfl) ?_
          refine ws_nil ?_
          exact qe_loop fun ac2 w2 hs2 => ⟨_, by omega, i + 1, rfl, (by omega), (fun q y hq hqa hy => if hqi : q < i then hno q y hqi hqa hy else absurd (show q = at0 by simp only [cmpP, ne_eq, Decidable.not_not] at h47; omega) hqa), st_sub hs2 _ rfl⟩
      · intro h39
        refine ws_l rfl rfl rfl rfl (rd_move rfl) ?_
        refine ws_xskip rfl rfl rfl rfl ?_
        refine ws_l rfl rfl rfl rfl (rd_pick_f rfl rfl) ?_
        refine ws_nil ?_
        refine qe_then ?_
        refine wc_false rfl ?_
        refine wc_exit ?_
        refine qe_then_exit ?_
        refine qe_then_exit ?_
        refine qe_block_exit ?_
        refine qe_then ?_
        refine wc_keep [(5, _), (7, _), (8, _), (9, _)] rfl ?_
        refine wc_seq ?_
        refine wc_seq ?_
        refine wc_plain [(0, .x true), (1, .x true)] (by kernel_rfl) ?_
        refine ws_l rfl rfl rfl rfl (rd_move rfl) ?_
        refine ws_l rfl rfl rfl rfl (rd_not rfl) ?_
        refine ws_nil ?_
        refine qe_then ?_
        refine wc_false rfl ?_
        refine wc_skip ?_
        refine qe_then ?_
        refine wc_seq ?_
        refine wc_plain [(0, .x true), (1, .x true), (2, .x true)] (by kernel_rfl) ?_
        refine ws_l rfl rfl rfl rfl (rd_move rfl) ?_
        have hall : ∀ y ∈ l.take 24, y.id ≠ xt.r.id → ¬ valB y xt.r ∧ ¬ outB xt.r y := by
          intro y hy hne
          rw [← hrows] at hy
          obtain ⟨z, hz, rfl⟩ := List.mem_map.1 hy
          obtain ⟨q, hq, hqz⟩ := List.getElem_of_mem hz
          simp only [cmpP] at h39
          exact hno q z (by omega) (fun e => by subst e; rw [List.getElem?_eq_getElem hq, hqz] at hxt; cases hxt; exact hne rfl) (by rw [List.getElem?_eq_getElem hq, hqz])
        refine ws_call rfl rfl rfl rfl rfl (En.go) (fun w hp hn ho => clone_ret p m k es ws c d L W (l.take 24) (νs ++ (ν4 ++ (νg ++ φ))) hL hW hok (by omega) w (hp.mono SubH.mem) (SubH.nd hn)) (fun _ h => by cases h) (fun hh q h => by first | (cases h; done) | exact hh q h) ?_
        rintro v73 wa wb hpo hon hon2 hp1 ⟨p2, m2, k2, es2, c2, ws2, d2, L2, W2, ν2, rfl, hset2, hsnd2, hsfar2, hL2, hW2, hok2⟩
        refine ⟨_, hset2, hsnd2, fun b hb => .inl (hsfar2 b hb), ?_⟩
        simp only [List.cons_append]
        refine ws_l rfl rfl rfl rfl (rd_assign rfl) ?_
        refine ws_nil ?_
        refine qe_then ?_
        refine wc_keep [(5, _), (7, _), (9, _), (11, _)] rfl ?_
        refine wc_seq ?_
        refine wc_seq ?_
        refine wc_plain [(0, .x true), (1, .x true), (2, .x true), (3, .x true), (4, .x true), (5, .x true), (6, .x true), (7, .x true), (8, .x true), (9, .x true), (10, .x true), (11, .x true), (12, .x true), (13, .x true), (14, .x true), (15, .x true), (16, .x true)] (by kernel_rfl) ?_
        refine ws_l rfl rfl rfl rfl (rd_move rfl) ?_
        refine ws_l rfl rfl rfl rfl (rd_move rfl) ?_
        refine ws_l rfl rfl rfl rfl (rd_move rfl) ?_
        refine ws_l rfl rfl rfl rfl (rd_index (ov + at0 * 83) rfl rfl Try.underlying23 Try.sizeOf43 ⟨by omega, by omega⟩ (by simp)) ?_
        refine ws_l rfl rfl rfl rfl (rd_fieldAddr rfl) ?_
        refine ws_l rfl rfl rfl rfl (rd_load rfl) ?_
        have hde : dropE (l.take 24) xt.r.id = 0 := by rw [dropE, if_pos ⟨xt.r, htm, rfl⟩]
        refine ws_call rfl rfl rfl rfl rfl (En.go) (fun w hp hn ho => drop_ret p m k es ws c d L W (l.take 24) (νs ++ (ν4 ++ (νg ++ φ))) hL hW hok (by omega) xt.r.id w (hp.mono SubH.mem) (SubH.nd hn)) (fun b hb => by simp only [List.mem_cons, List.not_mem_nil, or_false] at hb; rcases hb with rfl | rfl; exact .inl hmb; exact .inl hkb) (fun hh q h => by first | (cases h; done) | exact hh q h) ?_
        rintro v80 wa wb hpo hon hon2 hp1 ⟨rfl, es1, c1, ws1, d1, L1, W1, ν1, hp2, hnd2, hfar2, hL1, hW1, hok1⟩
        refine ⟨(m, .map es1 c1) :: (k, .map ws1 d1) :: ν1, hp2, hnd2, fun b hb => by simp only [List.map_cons, List.mem_cons] at hb; rcases hb with rfl | rfl | hb; exact .inr (by simp); exact .inr (by simp); exact .inl (hfar2 b hb), ?_⟩
        simp only [List.cons_append]
        replace hfar2 : ∀ b ∈ ν1.map Prod.fst, _ ≤ b := fun b hb => Nat.le_trans hon.size (hfar2 b hb)
        refine ws_l rfl rfl rfl rfl (rd_cmp_f rfl rfl rfl (by simp only [cmpP]; rw [hde]; simp)) ?_
        refine ws_l rfl rfl rfl rfl (rd_move rfl) ?_
        refine ws_l rfl rfl rfl rfl (rd_move rfl) ?_
        refine ws_l rfl rfl rfl rfl (rd_move rfl) ?_
        refine ws_l rfl rfl rfl rfl (rd_move rfl) ?_
        refine ws_l rfl rfl rfl rfl (rd_index (ov + at0 * 83) rfl rfl Try.underlying23 Try.sizeOf43 ⟨by omega, by omega⟩ (by simp)) ?_
        refine ws_l rfl rfl rfl rfl (rd_fieldAddr rfl) ?_
        refine ws_l rfl rfl rfl rfl (rd_load rfl) ?_
        refine ws_callp rfl rfl rfl rfl rfl (En.go) (fun w hp hn ho => by have h := has_ret p m k es1 ws1 c1 d1 L1 W1 (dropO (l.take 24) xt.r.id) (ν1 ++ (νs ++ (ν4 ++ (νg ++ φ)))) hL1 hW1 hok1 (by have := dropO_len (l.take 24) xt.r.id; omega) xt.r.id w (hp.mono SubH.mem) (SubH.nd hn); rwa [decide_eq_false (fun ⟨y, hy, he⟩ => (mem_dropO.1 hy).2 he)] at h) ?_
        refine ws_l rfl rfl rfl rfl (rd_pick_f rfl rfl) ?_
        refine ws_nil ?_
        refine qe_then ?_
        refine wc_keep [(5, _), (7, _), (9, _), (11, _), (90, _)] rfl ?_
        refine wc_false rfl ?_
        refine wc_skip ?_
        refine qe_then ?_
        refine wc_seq ?_
        refine wc_seq ?_
        refine wc_plain [(0, .x true)] (by kernel_rfl) ?_
        refine ws_l rfl rfl rfl rfl (rd_assign rfl) ?_
        refine ws_nil ?_
        refine qe_then ?_
        refine wc_block ?_
        refine wc_loop (fun mz ac w1 => ∃ (i : Nat), mz = hs.length - i ∧ (i ≤ hs.length) ∧ St 117 w [] [(5, .slice (some ⟨bv, ov, none⟩) hs.length cv), (7, ptr p), (9, I at0), (11, ptr p2), (12, I i)] ((p, .cells #[.map (some m), .map (some k)] 80 (0, 0)) :: (m, .map es1 c1) :: (k, .map ws1 d1) :: (ν1 ++ (setC p2 m2 k2 es2 c2 ws2 d2 (ν2 ++ (νs ++ (ν4 ++ (νg ++ φ))))))) ac w1) _ (fun ac w1 hs => ⟨0, rfl, (by omega), st_sub hs _ rfl⟩) ?_
        rintro _ ac3 wl3 ⟨i, rfl, hi, hs3⟩
        refine wc_at hs3 ?_
        refine wc_seq ?_
        refine wc_seq ?_
        refine wc_plain [(0, .x true), (1, .x true), (2, .x true), (3, .x true)] (by kernel_rfl) ?_
        refine ws_l rfl rfl rfl rfl (rd_move rfl) ?_
        refine ws_l rfl rfl rfl rfl (rd_move rfl) ?_
        refine ws_l rfl rfl rfl rfl (rd_len rfl Try.underlying23) ?_
        refine ws_lcmp rfl rfl rfl (rfl) (rfl) (rfl) ?_ ?_
        · intro h94
          refine ws_nil ?_
          refine qe_then ?_
          refine wc_true rfl ?_
          refine wc_skip ?_
          refine qe_then ?_
          refine wc_seq ?_
          refine wc_block ?_
          refine wc_seq ?_
          refine wc_drawn mixedT _ (fun _ h => h) [(0, .r), (1, .r), (2, .r), (3, .r), (4, .r), (5, .r), (6, .r), (7, .r), (8, .r), (9, .r), (11, .r), (12, .r), (13, .r), (14, .r), (15, .r), (16, .r), (10, .x false), (17, .x true), (18, .x true), (19, .x true)] (by kernel_rfl) ?_
          refine ws_r rfl rfl rfl rfl (rd_move rfl) ?_
          refine ws_r rfl rfl rfl rfl (rd_move rfl) ?_
          refine ws_rcmp rfl rfl rfl (rfl) (rfl) (rfl) ?_ ?_
          · intro h99
            refine ws_r rfl rfl rfl rfl (rd_move rfl) ?_
            refine ws_r rfl rfl rfl rfl (rd_move rfl) ?_
            refine ws_r rfl rfl rfl rfl (rd_move rfl) ?_
            refine ws_r rfl rfl rfl rfl (rd_move rfl) ?_
            obtain ⟨xi, hxi⟩ := at_ex (l := hs) (j := i) (by omega)
            have atxi : AtW csv (ov + i * 83) xi.r xi.g := at_w hcv hxi
            refine ws_r rfl rfl rfl rfl (rd_index (ov + i * 83) rfl rfl Try.underlying23 Try.sizeOf43 ⟨by omega, by omega⟩ (by simp)) ?_
            refine ws_r rfl rfl rfl rfl (rd_fieldAddr rfl) ?_
            refine ws_r rfl rfl rfl rfl (rd_load rfl) ?_
            refine ws_r rfl rfl rfl rfl (rd_move rfl) ?_
            refine ws_r rfl rfl rfl rfl (rd_move rfl) ?_
            refine ws_r rfl rfl rfl rfl (rd_move rfl) ?_
            refine ws_r rfl rfl rfl rfl (rd_index (ov + i * 83) rfl rfl Try.underlying23 Try.sizeOf43 ⟨by omega, by omega⟩ (by simp)) ?_
            refine ws_r rfl rfl rfl rfl (rd_fieldAddr rfl) ?_
            refine ws_r rfl rfl rfl rfl (rd_load rfl) ?_
            refine ws_callp rfl rfl rfl rfl rfl (En.go) (fun w hp hn ho => wd_ret p m k es1 ws1 c1 d1 L1 W1 (dropO (l.take 24) xt.r.id) (ν1 ++ (νs ++ (ν4 ++ (νg ++ φ)))) hL1 hW1 hok1 (by have := dropO_len (l.take 24) xt.r.id; omega) xi.r.id w (hp.mono SubH.mem) (SubH.nd hn)) ?_
            refine ws_late rfl ?_
            refine ws_callp rfl rfl rfl rfl rfl (En.go) (fun w hp hn ho => wd_ret p2 m2 k2 es2 ws2 c2 d2 L2 W2 (l.take 24) (ν2 ++ (νs ++ (ν4 ++ (νg ++ φ)))) hL2 hW2 hok2 (by omega) xi.r.id w (hp.mono SubH.mem) (SubH.nd hn)) ?_
            have him : xi.r ∈ l.take 24 := by rw [← hrows]; exact List.mem_map.2 ⟨xi, List.mem_of_getElem? hxi, rfl⟩
            have hine : xi.r.id ≠ xt.r.id := fun e => by
              have h1 : (l.take 24)[i]? = some xi.r := by rw [← hrows]; simp [hxi]
              have h2 : (l.take 24)[at0]? = some xt.r := by rw [← hrows]; simp [hxt]
              have := at_inj hok.nd h1 h2 e
              simp only [cmpP] at h99; omega
            refine ws_l rfl rfl rfl rfl (rd_bneq rfl rfl Try.underlying4 (drop_wd hok.nd htm hall him hine)) ?_
            refine ws_l rfl rfl rfl rfl (rd_pick_t rfl rfl) ?_
            refine ws_nil ?_
            refine qe_then ?_
            refine wc_false rfl ?_
            refine wc_skip ?_
            refine qe_block ?_
            refine qe_then ?_
            refine wc_plain [(0, .x true), (1, .x true), (2, .x true)] (by kernel_rfl) ?_
            refine ws_l rfl rfl rfl rfl (rd_move rfl) ?_
            refine ws_l rfl rfl rfl rfl (rd_arith (((i + 1 : Nat) : Int)) rfl rfl rfl (by rw [wrap_i64 _ (by omega) (by omega)]; omega)) ?_
            refine ws_l rfl rfl rfl rfl (rd_assign rfl) ?_
            refine ws_nil ?_
            exact qe_loop fun ac2 w2 hs2 => ⟨_, by omega, i + 1, rfl, (by omega), st_sub hs2 _ rfl⟩
          · intro h99
            refine ws_r rfl rfl rfl rfl (rd_move rfl) ?_
            refine ws_rskip rfl rfl rfl rfl ?_
            refine ws_rskip rfl rfl rfl rfl ?_
            refine ws_rskip rfl rfl rfl rfl ?_
            refine ws_rskip rfl rfl rfl rfl ?_
            refine ws_rskip rfl rfl rfl rfl ?_
            refine ws_rskip rfl rfl rfl rfl ?_
            refine ws_rskip rfl rfl rfl rfl ?_
            refine ws_rskip rfl rfl rfl rfl ?_
            refine ws_rskip rfl rfl rfl rfl ?_
            refine ws_rskip rfl rfl rfl rfl ?_
            refine ws_rskip rfl rfl rfl rfl ?_
            refine ws_rskip rfl rfl rfl rfl ?_
            refine ws_xskip rfl rfl rfl rfl ?_
            refine ws_late rfl ?_
            refine ws_xskip rfl rfl rfl rfl ?_
            refine ws_xskip rfl rfl rfl rfl ?_
            refine ws_l rfl rfl rfl rfl (rd_pick_f rfl rfl) ?_
            refine ws_nil ?_
            refine qe_then ?_
            refine wc_false rfl ?_
            refine wc_skip ?_
            refine qe_block ?_
            refine qe_then ?_
            refine wc_plain [(0, .x true), (1, .x true), (2, .x true)] (by kernel_rfl) ?_
            refine ws_l rfl rfl rfl rfl (rd_move rfl) ?_
            refine ws_l rfl rfl rfl rfl (rd_arith (((i + 1 : Nat) : Int)) rfl rfl rfl (by rw [wrap_i64 _ (by omega) (by omega)]; omega)) ?_
            refine ws_l rfl rfl rfl rfl (rd_assign rfl) ?_
            refine ws_nil ?_
            exact qe_loop fun ac2 w2 hs2 => ⟨_, by omega, i + 1, rfl, (by omega), st_sub hs2 _ rfl⟩
        · intro h94
          refine ws_nil ?_
          refine qe_then ?_
          refine wc_false rfl ?_
          refine wc_exit ?_
          refine qe_then_exit ?_
          refine qe_then_exit ?_
          refine qe_block_exit ?_
          refine qe_then ?_
          refine wc_keep [] rfl ?_
          refine wc_seq ?_
          refine wc_plain [(0, .x true)] (by kernel_rfl) ?_
          refine ws_l rfl rfl rfl rfl (rd_assign rfl) ?_
          refine ws_nil ?_
          refine qe_then ?_
          refine wc_ret ?_
          refine qe_body _ (.inl rfl) (res1 rfl (RV.tmp rfl)) ?_
          exact ret_end fun w hp hn ho => rfl

end Go.Proofs.Ytaagmgpfpaanlaa
