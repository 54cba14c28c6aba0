/- Walk: set. No conditions. -/
import Derived.Test.YtaagmgpfpaanlaaW11
import Derived.Test.YtaagmgpfpaanlaaW8
import Derived.Test.YtaagmgpfpaanlaaLaw
namespace Go.Proofs.Ytaagmgpfpaanlaa
open Go Go.RowKit Go.Sx
set_option linter.unusedSimpArgs false
set_option linter.unusedVariables false

set_option maxRecDepth 100000 in
set_option maxHeartbeats 1000000 in
theorem set_law (v : Value) (φ : Heap) (hs : List HR) (hsrc : Src φ v 83 hs.length (hs.flatMap hrL)) (hlen : hs.length < 100) (hgs : ∀ x ∈ hs, GOK φ x.g x.r.grp) (w : World) (hφ : HpOK φ w) (hnd : (φ.map Prod.fst).Nodup) : Ret Try.prog 20 [v] w [] (fun u w' => ∃ s ok own', u = .tuple #[s, .bool ok] ∧ SetNew φ own' w w' s ∧ (ok = true → own' = hs.map HR.r)) := by
  refine enter (n := 21) (args := [v]) [] φ Try.func20 rfl rfl rfl hφ hnd ?_
  refine wc_seq ?_
  refine wc_plain [(0, .x true), (1, .x true)] (by kernel_rfl) ?_
  refine ws_l rfl rfl rfl rfl (rd_assign rfl) ?_
  refine ws_l rfl rfl rfl rfl (rd_assign rfl) ?_
  refine ws_nil ?_
  refine qe_then ?_
  refine wc_seq ?_
  refine wc_plain [(0, .x true), (1, .x true)] (by kernel_rfl) ?_
  refine ws_call rfl rfl rfl rfl rfl (En.go) (fun w hp hn ho => new_ret w) (fun _ h => by cases h) (fun hh q h => by first | (cases h; done) | exact hh q h) ?_
  rintro v5 wa wb hpo hon hon2 hp1 ⟨p, m, k, rfl, hpb, hmb, hkb, hpmk, hset⟩
  refine ⟨_, hset, by simpa using hpmk, fun b hb => .inl (by simp at hb; rcases hb with rfl | rfl | rfl; exact hpb; exact hmb; exact hkb), ?_⟩
  replace hpb := Nat.le_trans hon.size hpb
  replace hmb := Nat.le_trans hon.size hmb
  replace hkb := Nat.le_trans hon.size hkb
  simp only [List.cons_append, List.nil_append]
  refine ws_l rfl rfl rfl rfl (rd_assign rfl) ?_
  refine ws_nil ?_
  refine qe_then ?_
  refine wc_seq ?_
  refine wc_seq ?_
  refine wc_plain [(0, .x true)] (by kernel_rfl) ?_
  refine ws_l rfl rfl rfl rfl (rd_assign rfl) ?_
  refine ws_nil ?_
  refine qe_then ?_
  refine wc_block ?_
  refine wc_loop (fun mz ac w1 => ∃ (j : Nat) (es : Array MapEntry) (c : Nat) (ws : Array MapEntry) (d : Nat) (L : RMap) (W : WMap) (νs : Heap), mz = hs.length - j ∧ (j ≤ hs.length) ∧ (MapIs idK hrK es c L) ∧ (MapIs idK wvK ws d W) ∧ (SetOK (νs ++ φ) L W ((hs.take j).map HR.r)) ∧ (∀ b ∈ νs.map Prod.fst, w.heap.size ≤ b) ∧ St 21 w [] [(0, v), (2, ptr p), (4, I j)] (setC p m k es c ws d (νs ++ φ)) ac w1) _ (fun ac w1 hs => ⟨0, #[], 0, #[], 0, [], [], [], rfl, (by omega), (MapIs.empty _ _ _), (MapIs.empty _ _ _), (by simpa using SetOK.empty _), (by simp), st_sub hs _ rfl⟩) ?_
  rintro _ ac1 wl1 ⟨j, es, c, ws, d, L, W, νs, rfl, hj, hL, hW, hok, hfs, hs1⟩
  refine wc_at hs1 ?_
  refine wc_seq ?_
  refine wc_seq ?_
  refine wc_plain [(0, .x true), (1, .x true), (2, .x true), (3, .x true)] (by kernel_rfl) ?_
  refine ws_l rfl rfl rfl rfl (rd_move rfl) ?_
  refine ws_l rfl rfl rfl rfl (rd_move rfl) ?_
  refine ws_l rfl rfl rfl rfl (rd_lenS hsrc rfl Try.underlying23) ?_
  refine ws_lcmp rfl rfl rfl (rfl) (rfl) (rfl) ?_ ?_
  · intro h9
    refine ws_nil ?_
    refine qe_then ?_
    refine wc_true rfl ?_
    refine wc_skip ?_
    refine qe_then ?_
    refine wc_seq ?_
    refine wc_block ?_
    refine wc_seq ?_
    refine wc_plain [(0, .x true), (1, .x true), (2, .x true), (3, .x true), (4, .x true), (5, .x true), (6, .x true)] (by kernel_rfl) ?_
    refine ws_l rfl rfl rfl rfl (rd_move rfl) ?_
    refine ws_l rfl rfl rfl rfl (rd_move rfl) ?_
    refine ws_l rfl rfl rfl rfl (rd_move rfl) ?_
    obtain ⟨bv, ov, cv, csv, Ev, frv, rfl, hmv, hcv⟩ := Src.opened hsrc (by omega)
    have hmiv : HM bv (.cells csv Ev frv) φ := ⟨hmv⟩
    obtain ⟨x, hx⟩ := at_ex (l := hs) (j := j) (by omega)
    have atx : AtW csv (ov + j * 83) x.r x.g := at_w hcv hx
    refine ws_l rfl rfl rfl rfl (rd_index (ov + j * 83) rfl rfl Try.underlying23 Try.sizeOf43 ⟨by omega, by omega⟩ (by simp)) ?_
    refine ws_l rfl rfl rfl rfl (rd_load rfl) ?_
    have hmem : x ∈ hs := List.mem_of_getElem? hx
    refine ws_call rfl rfl rfl rfl rfl (En.go) (fun w hp hn ho => add_ret p m k es ws c d L W ((hs.take j).map HR.r) (νs ++ φ) hL hW hok (by simp; omega) x.r x.g ((hgs x hmem).mono (fun q hq => List.mem_append_right _ hq)) w (hp.mono SubH.mem) (SubH.nd hn)) (fun b hb => by simp only [List.mem_cons, List.not_mem_nil, or_false] at hb; rcases hb with rfl | rfl; exact .inl hmb; exact .inl hkb) (fun hh q h => by first | (cases h; done) | exact hh q h) ?_
    rintro v17 wa wb hpo hon hon2 hp1 ⟨rfl, es1, c1, ws1, d1, L1, W1, ν1, hp2, hnd2, hfar2, hL1, hW1, hok1⟩
    refine ⟨(m, .map es1 c1) :: (k, .map ws1 d1) :: ν1, hp2, hnd2, fun b hb => by simp only [List.map_cons, List.mem_cons] at hb; rcases hb with rfl | rfl | hb; exact .inr (by simp); exact .inr (by simp); exact .inl (hfar2 b hb), ?_⟩
    simp only [List.cons_append]
    replace hfar2 : ∀ b ∈ ν1.map Prod.fst, _ ≤ b := fun b hb => Nat.le_trans hon.size (hfar2 b hb)
    by_cases hadd : addE ((hs.take j).map HR.r) x.r = 0
    ·
      refine ws_l rfl rfl rfl rfl (rd_cmp_f rfl rfl rfl (by simp only [cmpP]; omega)) ?_
      rw [addO, if_pos hadd] at hok1
      refine ws_nil ?_
      refine qe_then ?_
      refine wc_false rfl ?_
      refine wc_skip ?_
      refine qe_block ?_
      refine qe_then ?_
      refine wc_plain [(0, .x true), (1, .x true), (2, .x true)] (by kernel_rfl) ?_
      refine ws_l rfl rfl rfl rfl (rd_move rfl) ?_
      refine ws_l rfl rfl rfl rfl (rd_arith (((j + 1 : Nat) : Int)) rfl rfl rfl (by rw [wrap_i64 _ (by omega) (by omega)]; omega)) ?_
      refine ws_l rfl rfl rfl rfl (rd_assign rfl) ?_
      refine ws_nil ?_
      exact qe_loop fun ac2 w2 hs2 => ⟨_, by omega, j + 1, es1, c1, ws1, d1, L1, W1, ν1 ++ νs, rfl, (by omega), (hL1), (hW1), (by rw [take_at hx, List.map_append, List.append_assoc]; exact hok1), (fun b hb => by rw [List.map_append, List.mem_append] at hb; exact hb.elim (hfar2 b) (hfs b)), st_sub hs2 _ rfl⟩
    ·
      refine ws_l rfl rfl rfl rfl (rd_cmp_t rfl rfl rfl (by simp only [cmpP]; omega)) ?_
      refine ws_nil ?_
      refine qe_then ?_
      refine wc_true rfl ?_
      refine wc_seq ?_
      refine wc_plain [(0, .x true), (1, .x true), (2, .x true)] (by kernel_rfl) ?_
      refine ws_l rfl rfl rfl rfl (rd_move rfl) ?_
      refine ws_l rfl rfl rfl rfl (rd_assign rfl) ?_
      refine ws_l rfl rfl rfl rfl (rd_assign rfl) ?_
      refine ws_nil ?_
      refine qe_then ?_
      refine wc_ret ?_
      refine qe_block_ret ?_
      refine qe_then_ret ?_
      refine qe_then_ret ?_
      refine qe_block_ret ?_
      refine qe_then_ret ?_
      refine qe_body _ (.inl rfl) (res2 rfl (RV.tmp rfl) (RV.tmp rfl)) ?_
      exact ret_end fun w hp hn ho => ⟨_, false, _, rfl, ⟨p, m, k, es1, c1, ws1, d1, L1, W1, ν1 ++ νs, rfl, (hp.mono SubH.mem), SubH.nd hn, fun b hb => by simp only [List.map_cons, List.mem_cons] at hb; rcases hb with rfl | rfl | rfl | hb; exact hpb; exact hmb; exact hkb; exact (by rw [List.map_append, List.mem_append] at hb; exact hb.elim (hfar2 b) (hfs b)), hL1, hW1, by rw [List.append_assoc]; exact hok1⟩, by simp⟩
  · intro h9
    refine ws_nil ?_
    refine qe_then ?_
    refine wc_false rfl ?_
    refine wc_exit ?_
    refine qe_then_exit ?_
    refine qe_then_exit ?_
    refine qe_block_exit ?_
    refine qe_then ?_
    refine wc_keep [(2, _)] rfl ?_
    refine wc_seq ?_
    refine wc_plain [(0, .x true), (1, .x true), (2, .x true)] (by kernel_rfl) ?_
    refine ws_l rfl rfl rfl rfl (rd_move rfl) ?_
    refine ws_l rfl rfl rfl rfl (rd_assign rfl) ?_
    refine ws_l rfl rfl rfl rfl (rd_assign rfl) ?_
    refine ws_nil ?_
    refine qe_then ?_
    refine wc_ret ?_
    refine qe_body _ (.inl rfl) (res2 rfl (RV.tmp rfl) (RV.tmp rfl)) ?_
    exact ret_end fun w hp hn ho => ⟨_, true, _, rfl, ⟨p, m, k, es, c, ws, d, L, W, νs, rfl, (hp.mono SubH.mem), SubH.nd hn, fun b hb => by simp only [List.map_cons, List.mem_cons] at hb; rcases hb with rfl | rfl | rfl | hb; exact hpb; exact hmb; exact hkb; exact hfs b hb, hL, hW, hok⟩, fun _ => by rw [List.take_of_length_le (by omega)]⟩

end Go.Proofs.Ytaagmgpfpaanlaa
