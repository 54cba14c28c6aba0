/- Walk: rows. No conditions. -/
import Derived.Test.YtaagmgpfpaanlaaW10
namespace Go.Proofs.Ytaagmgpfpaanlaa
open Go Go.RowKit Go.Sx
set_option linter.unusedSimpArgs false
set_option linter.unusedVariables false

theorem flat_take_rr {l : List RR} : (l.take 24).flatMap rrL = (l.flatMap rrL).take (min l.length 24 * 82) := by
  rw [flat_take rrL_len]
  congr 1
  by_cases h : l.length ≤ 24
  · rw [Nat.min_eq_left h, List.take_of_length_le h, List.take_of_length_le (Nat.le_refl _)]
  · rw [Nat.min_eq_right (by omega)]
set_option maxRecDepth 100000 in
set_option maxHeartbeats 1000000 in
theorem rows_law (v : Value) (φ : Heap) (l : List RR) (hsrc : Src φ v 82 l.length (l.flatMap rrL)) (hcap : CapOK v l.length) (w : World) (hφ : HpOK φ w) (hnd : (φ.map Prod.fst).Nodup) : Ret Try.prog 12 [v] w [] (fun u w' => ∃ (hs : List HR) (v4 u10 : Value) (ν4 νg : Heap), u = .tuple #[v4, u10] ∧ hs.map HR.r = l.take 24 ∧ HpOK (ν4 ++ νg) w' ∧ ((ν4 ++ νg).map Prod.fst).Nodup ∧ (∀ b ∈ (ν4 ++ νg).map Prod.fst, w.heap.size ≤ b) ∧ OwnR w.heap.size 43 83 v4 ν4 hs.length (hs.flatMap hrL) ∧ (∀ x ∈ hs, GOK νg x.g x.r.grp) ∧ Src φ u10 82 (l.take 24).length ((l.take 24).flatMap rrL) ∧ CapOK u10 (l.take 24).length) := by
  refine enter (n := 27) (args := [v]) [] φ Try.func12 rfl rfl rfl hφ hnd ?_
  refine wc_seq ?_
  refine wc_plain [(0, .x true), (1, .x true)] (by kernel_rfl) ?_
  refine ws_l rfl rfl rfl rfl (rd_assign rfl) ?_
  refine ws_l rfl rfl rfl rfl (rd_assign rfl) ?_
  refine ws_nil ?_
  refine qe_then ?_
  refine wc_seq ?_
  refine wc_plain [(0, .x true), (1, .x true), (2, .x true), (3, .x true), (4, .x true), (5, .x true)] (by kernel_rfl) ?_
  refine ws_l rfl rfl rfl rfl (rd_move rfl) ?_
  refine ws_l rfl rfl rfl rfl (rd_move rfl) ?_
  refine ws_l rfl rfl rfl rfl (rd_lenS hsrc rfl Try.underlying22) ?_
  refine ws_l rfl rfl rfl rfl (rd_min rfl rfl) ?_
  obtain ⟨u10, hur10, hu10, hc10⟩ := hsrc.upto hcap .i64 (min l.length 24) (by omega) Try.underlying22 Try.sizeOf46
  rw [← flat_take_rr] at hu10
  have hl24 : (l.take 24).length = min l.length 24 := by rw [List.length_take]; omega
  rw [← hl24] at hu10 hc10 hur10
  rw [show (if (24 : Int) < ((l.length : Nat) : Int) then (24 : Int) else ((l.length : Nat) : Int)) = (((l.take 24).length : Nat) : Int) by rw [hl24]; split <;> omega]
  refine ws_l rfl rfl rfl rfl (rd_slice_h Try.underlying22 rfl rfl hur10) ?_
  refine ws_l rfl rfl rfl rfl (rd_assign rfl) ?_
  refine ws_nil ?_
  refine qe_then ?_
  refine wc_keep [(0, _), (2, _), (3, _)] rfl ?_
  refine wc_seq ?_
  refine wc_plain [(0, .x true)] (by kernel_rfl) ?_
  refine ws_l rfl rfl rfl rfl (rd_assign rfl) ?_
  refine ws_nil ?_
  refine qe_then ?_
  refine wc_seq ?_
  refine wc_seq ?_
  refine wc_plain [(0, .x true)] (by kernel_rfl) ?_
  refine ws_l rfl rfl rfl rfl (rd_assign rfl) ?_
  refine ws_nil ?_
  refine qe_then ?_
  refine wc_block ?_
  refine wc_loop (fun mz ac w1 => ∃ (j : Nat) (xs : List HR) (v4 : Value) (ν4 : Heap) (νg : Heap), mz = (l.take 24).length - j ∧ (j ≤ (l.take 24).length) ∧ (OwnR w.heap.size 43 83 v4 ν4 xs.length (xs.flatMap hrL)) ∧ (xs.map HR.r = (l.take 24).take j) ∧ (∀ x ∈ xs, GOK νg x.g x.r.grp) ∧ (∀ b ∈ νg.map Prod.fst, w.heap.size ≤ b) ∧ St 27 w [] [(0, u10), (4, v4), (5, I j)] (ν4 ++ (νg ++ φ)) ac w1) _ (fun ac w1 hs => ⟨0, [], .slice none 0 0, [], [], rfl, (by omega), (OwnR.nil _ _ _), (by simp), (by simp), (by simp), st_sub hs _ rfl⟩) ?_
  rintro _ ac1 wl1 ⟨j, xs, v4, ν4, νg, rfl, hj, hown, hxs, hgs, hfg, hs1⟩
  refine wc_at hs1 ?_
  refine wc_seq ?_
  refine wc_seq ?_
  refine wc_plain [(0, .x true), (1, .x true), (2, .x true), (3, .x true)] (by kernel_rfl) ?_
  refine ws_l rfl rfl rfl rfl (rd_move rfl) ?_
  refine ws_l rfl rfl rfl rfl (rd_move rfl) ?_
  refine ws_l rfl rfl rfl rfl (rd_lenS hu10 rfl Try.underlying22) ?_
  refine ws_lcmp rfl rfl rfl (rfl) (rfl) (rfl) ?_ ?_
  · intro h14
    refine ws_nil ?_
    refine qe_then ?_
    refine wc_true rfl ?_
    refine wc_skip ?_
    refine qe_then ?_
    refine wc_seq ?_
    refine wc_block ?_
    refine wc_plain [(0, .x true), (1, .x true), (2, .x true), (3, .x true), (4, .x true), (5, .x true), (6, .x true), (7, .x true), (8, .x true)] (by kernel_rfl) ?_
    refine ws_l rfl rfl rfl rfl (rd_move rfl) ?_
    refine ws_l rfl rfl rfl rfl (rd_move rfl) ?_
    refine ws_l rfl rfl rfl rfl (rd_move rfl) ?_
    obtain ⟨bv, ov, cv, csv, Ev, frv, rfl, hmv, hcv⟩ := Src.opened hu10 (by omega)
    have hmiv : HM bv (.cells csv Ev frv) φ := ⟨hmv⟩
    obtain ⟨x, hx⟩ := at_ex (l := (l.take 24)) (j := j) (by omega)
    have atx : AtR csv (ov + j * 82) x := at_r hcv hx
    refine ws_l rfl rfl rfl rfl (rd_index (ov + j * 82) rfl rfl Try.underlying22 Try.sizeOf46 ⟨by omega, by omega⟩ (by simp)) ?_
    refine ws_l rfl rfl rfl rfl (rd_load rfl) ?_
    refine ws_call rfl rfl rfl rfl rfl (En.go) (fun w hp hn ho => to_ret x w) (fun _ h => by cases h) (fun hh q h => by first | (cases h; done) | exact hh q h) ?_
    rintro v22 wa wb hpo hon hon2 hp1 ⟨g2, ν2, rfl, hown2, hν2⟩
    refine ⟨ν2, hν2, hown2.nd, fun b hb => .inl (hown2.far b hb), ?_⟩
    replace hown2 := hown2.mono hon.size
    refine ws_buildSlice rfl rfl rfl rfl ?_
    intro b23 hb23
    refine ws_append rfl rfl rfl rfl rfl hown (by simp [rowC_size]) (rowC_one _ _) (by have := congrArg List.length hxs; simp at this; simp only [maxLen]; omega) (by have := congrArg List.length hxs; simp at this; omega) (fun _ _ _ h => by first | (cases h; done) | (simp only [List.mem_append, List.mem_cons] at h ⊢; grind) | skip) ?_
    intro v4' ν4' hown4'
    refine ws_l rfl rfl rfl rfl (rd_assign rfl) ?_
    refine ws_nil ?_
    refine qe_block ?_
    refine qe_then ?_
    refine wc_plain [(0, .x true), (1, .x true), (2, .x true)] (by kernel_rfl) ?_
    refine ws_l rfl rfl rfl rfl (rd_move rfl) ?_
    refine ws_l rfl rfl rfl rfl (rd_arith (((j + 1 : Nat) : Int)) rfl rfl rfl (by rw [wrap_i64 _ (by omega) (by omega)]; omega)) ?_
    refine ws_l rfl rfl rfl rfl (rd_assign rfl) ?_
    refine ws_nil ?_
    exact qe_loop fun ac2 w2 hs2 => ⟨_, by omega, j + 1, xs ++ [⟨x, g2⟩], v4', ν4', ν2 ++ νg, rfl, (by omega), (Row.app (enc := hrL) hown4' rfl (by simp)), (by rw [List.map_append, hxs, take_at hx]; rfl), (fun y hy => by rcases List.mem_append.1 hy with hy | hy; exact (hgs y hy).mono (fun q hq => List.mem_append_right _ hq); rw [List.mem_singleton.1 hy]; exact hown2.src.mono (fun q hq => List.mem_append_left _ hq)), (fun b hb => by rw [List.map_append, List.mem_append] at hb; exact hb.elim (hown2.far b) (hfg b)), st_sub hs2 _ rfl⟩
  · intro h14
    refine ws_nil ?_
    refine qe_then ?_
    refine wc_false rfl ?_
    refine wc_exit ?_
    refine qe_then_exit ?_
    refine qe_then_exit ?_
    refine qe_block_exit ?_
    refine qe_then ?_
    refine wc_keep [(0, _), (4, _)] rfl ?_
    refine wc_seq ?_
    refine wc_plain [(0, .x true), (1, .x true), (2, .x true), (3, .x true)] (by kernel_rfl) ?_
    refine ws_l rfl rfl rfl rfl (rd_move rfl) ?_
    refine ws_l rfl rfl rfl rfl (rd_move rfl) ?_
    refine ws_l rfl rfl rfl rfl (rd_assign rfl) ?_
    refine ws_l rfl rfl rfl rfl (rd_assign rfl) ?_
    refine ws_nil ?_
    refine qe_then ?_
    refine wc_ret ?_
    refine qe_body _ (.inl rfl) (res2 rfl (RV.tmp rfl) (RV.tmp rfl)) ?_
    rw [List.take_of_length_le (by omega)] at hxs
    exact ret_end fun w hp hn ho => ⟨xs, v4, _, ν4, νg, rfl, hxs, (hp.mono SubH.mem), SubH.nd hn, fun b hb => by rw [List.map_append, List.mem_append] at hb; exact hb.elim (hown.far b) (hfg b), hown, hgs, hu10, hc10⟩

end Go.Proofs.Ytaagmgpfpaanlaa
