/- Walks: the reference's Path; pick. No conditions. -/
import Derived.Test.YtaagmgpfpaanlaaW24
namespace Go.Proofs.Ytaagmgpfpaanlaa
open Go Go.RowKit Go.Sx
set_option linter.unusedSimpArgs false
set_option linter.unusedVariables false

set_option maxRecDepth 100000 in
set_option maxHeartbeats 2000000 in
theorem path_ref (v : Value) (φ : Heap) (l : List RR) (hsrc : Src φ v 82 l.length (l.flatMap rrL)) (hlen : l.length < 1048576) (hn0 : (l.map RR.id).Nodup) (i : Nat) (x : RR) (hi : l[i]? = some x) (w : World) (hφ : HpOK φ w) (hnd : (φ.map Prod.fst).Nodup) : Ret Try.prog 34 [v, I i] w [] (fun u w' => ∃ (out : List Ix) (g' : GV) (ν' : Heap), u = g'.v ∧ OwnR w.heap.size 3 1 g'.v ν' out.length (out.flatMap ixL) ∧ HpOK ν' w' ∧ out.map (fun q => q.2.id) = pathI l x.id ∧ ∀ q ∈ out, l[q.1]? = some q.2) := by
  refine enter (n := 26) (args := [v, I i]) [] φ Try.func34 rfl rfl rfl hφ hnd ?_
  refine wc_seq ?_
  refine wc_plain [(0, .x true)] (by kernel_rfl) ?_
  refine ws_l rfl rfl rfl rfl (rd_assign rfl) ?_
  refine ws_nil ?_
  refine qe_then ?_
  refine wc_seq ?_
  refine wc_plain [(0, .x true)] (by kernel_rfl) ?_
  refine ws_l rfl rfl rfl rfl (rd_assign rfl) ?_
  refine ws_nil ?_
  refine qe_then ?_
  refine wc_seq ?_
  refine wc_block ?_
  refine wc_loop (fun mz ac w1 => ∃ (out : List Ix) (v5 : Value) (ν5 : Heap) (ci : Nat) (xc : RR), mz = l.length + 1 - out.length ∧ (OwnR w.heap.size 3 1 v5 ν5 out.length (out.flatMap ixL)) ∧ (l[ci]? = some xc) ∧ (∀ q ∈ out, l[q.1]? = some q.2) ∧ (Walking l (pathI l x.id) (out.map (fun q => q.2.id)) xc.id) ∧ St 26 w [] [(0, v), (1, I ci), (5, v5)] (ν5 ++ φ) ac w1) _ (fun ac w1 hs => ⟨[], .slice none 0 0, [], i, x, rfl, (OwnR.nil _ _ _), (hi), (by simp), (Walking.start (List.mem_of_getElem? hi)), st_sub hs _ rfl⟩) ?_
  rintro _ ac1 wl1 ⟨out, v5, ν5, ci, xc, rfl, hown, hci, hall, hwk, hs1⟩
  refine wc_at hs1 ?_
  refine wc_seq ?_
  refine wc_seq ?_
  refine wc_plain [(0, .x true), (1, .x true), (2, .x true), (3, .x true), (4, .x true)] (by kernel_rfl) ?_
  refine ws_l rfl rfl rfl rfl (rd_move rfl) ?_
  refine ws_l rfl rfl rfl rfl (rd_lenO hown rfl Try.underlying66) ?_
  refine ws_l rfl rfl rfl rfl (rd_move rfl) ?_
  refine ws_l rfl rfl rfl rfl (rd_lenS hsrc rfl Try.underlying22) ?_
  refine ws_lcmp rfl rfl rfl (rfl) (rfl) (rfl) ?_ ?_
  · intro h11
    refine ws_nil ?_
    refine qe_then ?_
    refine wc_true rfl ?_
    refine wc_skip ?_
    refine qe_then ?_
    refine wc_block ?_
    refine wc_seq ?_
    refine wc_plain [(0, .x true), (1, .x true), (2, .x true), (3, .x true), (4, .x true)] (by kernel_rfl) ?_
    refine ws_l rfl rfl rfl rfl (rd_move rfl) ?_
    refine ws_l rfl rfl rfl rfl (rd_move rfl) ?_
    refine ws_buildSlice rfl rfl rfl rfl ?_
    intro b14 hb14
    refine ws_append rfl rfl rfl rfl rfl hown (by simp) (by simp [Value.oneCell']) (by simp only [cmpP] at h11; simp only [maxLen]; omega) (by simp only [cmpP] at h11; omega) (fun _ _ _ h => by first | (cases h; done) | (simp only [List.mem_append, List.mem_cons] at h ⊢; grind) | skip) ?_
    intro v5' ν5' hown5'
    have hown5x : OwnR w.heap.size 3 1 v5' ν5' (out ++ [((ci, xc) : Ix)]).length ((out ++ [((ci, xc) : Ix)]).flatMap ixL) := Row.app (enc := ixL) (ys := [(ci, xc)]) hown5' rfl (by simp)
    refine ws_l rfl rfl rfl rfl (rd_assign rfl) ?_
    refine ws_nil ?_
    refine qe_then ?_
    refine wc_seq ?_
    refine wc_plain [(0, .x true), (1, .x true), (2, .x true), (3, .x true)] (by kernel_rfl) ?_
    refine ws_l rfl rfl rfl rfl (rd_move rfl) ?_
    refine ws_l rfl rfl rfl rfl (rd_move rfl) ?_
    refine ws_call rfl rfl rfl rfl rfl (En.go) (fun w hp hn ho => succ_ref v φ l hsrc hlen hn0 ci xc hci w (hp.mono SubH.mem) hnd) (fun _ h => by cases h) (fun hh q h => by first | (cases h; done) | exact hh q h) ?_
    rintro v18 wa wb hpo hon hon2 hp1 ⟨sout, g6, ν6, rfl, hown6, hν6, hsm, hsall⟩
    refine ⟨ν6, hν6, hown6.nd, fun b hb => .inl (hown6.far b hb), ?_⟩
    replace hown6 := hown6.mono hon.size
    refine ws_l rfl rfl rfl rfl (rd_assign rfl) ?_
    refine ws_nil ?_
    refine qe_then ?_
    refine wc_seq ?_
    refine wc_seq ?_
    refine wc_plain [(0, .x true), (1, .x true), (2, .x true)] (by kernel_rfl) ?_
    refine ws_l rfl rfl rfl rfl (rd_move rfl) ?_
    refine ws_l rfl rfl rfl rfl (rd_lenO hown6 rfl Try.underlying66) ?_
    refine ws_lcmp rfl rfl rfl (rfl) (rfl) (rfl) ?_ ?_
    · intro h21
      have hsi := succI_in hn0 (List.mem_of_getElem? hci)
      rw [← hsm] at hsi
      have hs0 : succI l xc.id = [] := by rw [hsi, List.eq_nil_of_length_eq_zero (l := sout) (by simp only [cmpP] at h21; omega)]; rfl
      refine ws_nil ?_
      refine qe_then ?_
      refine wc_true rfl ?_
      refine wc_seq ?_
      refine wc_plain [(0, .x true), (1, .x true)] (by kernel_rfl) ?_
      refine ws_l rfl rfl rfl rfl (rd_move rfl) ?_
      refine ws_l rfl rfl rfl rfl (rd_assign rfl) ?_
      refine ws_nil ?_
      refine qe_then ?_
      refine wc_ret ?_
      refine qe_then_ret ?_
      refine qe_block_ret ?_
      refine qe_then_ret ?_
      refine qe_block_ret ?_
      refine qe_then_ret ?_
      refine qe_body _ (.inl rfl) (res1 rfl (RV.tmp rfl)) ?_
      obtain ⟨gv, rfl, -⟩ := OwnR.gv hown5x
      exact ret_end fun w hp hn ho => ⟨out ++ [(ci, xc)], gv, _, rfl, hown5x, (hp.mono SubH.mem), by rw [hwk.done hs0]; simp, fun q hq => by rcases List.mem_append.1 hq with hq | hq; exact hall q hq; rw [List.mem_singleton.1 hq]; exact hci⟩
    · intro h21
      have hsi := succI_in hn0 (List.mem_of_getElem? hci)
      rw [← hsm] at hsi
      obtain ⟨gA6, gn6, gc6⟩ := g6
      obtain ⟨q6, cap6, cur6, hv6, rfl, hq6, hcap6, hcur6⟩ := OwnR.opened hown6 (by simp only [cmpP] at h21; omega)
      simp only [Value.slice.injEq] at hv6
      obtain ⟨rfl, rfl, rfl⟩ := hv6
      obtain ⟨q, hq⟩ := at_ex (l := sout) (j := 0) (by simp only [cmpP] at h21; omega)
      have atq : GetAt cur6 (0 * 1) (I (q.1 : Nat)) := ix_get hcur6 hq
      obtain ⟨rest, hrest⟩ : ∃ rest, succI l xc.id = q.2.id :: rest := by rw [hsi]; cases sout with | nil => cases hq | cons a r => cases hq; exact ⟨_, rfl⟩
      refine ws_nil ?_
      refine qe_then ?_
      refine wc_false rfl ?_
      refine wc_skip ?_
      refine qe_then ?_
      refine wc_plain [(0, .x true), (1, .x true), (2, .x true), (3, .x true)] (by kernel_rfl) ?_
      refine ws_l rfl rfl rfl rfl (rd_move rfl) ?_
      refine ws_l rfl rfl rfl rfl (rd_ix (j := 0) rfl rfl Try.underlying66 Try.sizeOf3 (by show 0 < sout.length; simp only [cmpP] at h21; omega)) ?_
      refine ws_l rfl rfl rfl rfl (rd_load rfl) ?_
      refine ws_l rfl rfl rfl rfl (rd_assign rfl) ?_
      refine ws_nil ?_
      refine qe_block ?_
      exact qe_loop fun ac2 w2 hs2 => ⟨_, by (rw [List.length_append, List.length_singleton]; simp only [cmpP] at h11; omega), out ++ [(ci, xc)], v5', ν5', q.1, q.2, rfl, (hown5x), (hsall q (List.mem_of_getElem? hq)), (fun q hq => by rcases List.mem_append.1 hq with hq | hq; exact hall q hq; rw [List.mem_singleton.1 hq]; exact hci), (by rw [List.map_append]; exact hwk.step hn0 hrest), st_sub hs2 _ rfl⟩
  · intro h11
    refine ws_nil ?_
    refine qe_then ?_
    refine wc_false rfl ?_
    refine wc_exit ?_
    refine qe_then_exit ?_
    refine qe_then_exit ?_
    refine qe_block_exit ?_
    refine qe_then ?_
    refine wc_keep [] rfl ?_
    refine wc_seq ?_
    refine wc_plain [(0, .x true)] (by kernel_rfl) ?_
    refine ws_l rfl rfl rfl rfl (rd_assign rfl) ?_
    refine ws_nil ?_
    refine qe_then ?_
    refine wc_ret ?_
    refine qe_body _ (.inl rfl) (res1 rfl (RV.tmp rfl)) ?_
    exact ret_end fun w hp hn ho => ⟨[], gnil, [], rfl, OwnR.nil _ _ _, HpOK.nil w, by rw [hwk.long (by simp only [cmpP] at h11; simp; omega)]; rfl, by simp⟩
set_option maxRecDepth 100000 in
set_option maxHeartbeats 1000000 in
theorem pick_law (v : Value) (φ : Heap) (l : List RR) (hsrc : Src φ v 82 l.length (l.flatMap rrL)) (hlen : l.length < 1048576) (v2 : Value) (out : List Ix) (hsrc2 : Src φ v2 1 out.length (out.flatMap ixL)) (hall : ∀ q ∈ out, l[q.1]? = some q.2) (hlen2 : out.length < 1048576) (w : World) (hφ : HpOK φ w) (hnd : (φ.map Prod.fst).Nodup) : Ret Try.prog 36 [v, v2] w [] (fun u w' => ∃ (g' : GV) (ν' : Heap), u = g'.v ∧ OwnR w.heap.size 37 32 g'.v ν' (out.map fun q => q.2.id).length (idsL (out.map fun q => q.2.id)) ∧ HpOK ν' w') := by
  refine enter (n := 25) (args := [v, v2]) [] φ Try.func36 rfl rfl rfl hφ hnd ?_
  refine wc_seq ?_
  refine wc_plain [(0, .x true)] (by kernel_rfl) ?_
  refine ws_l rfl rfl rfl rfl (rd_assign rfl) ?_
  refine ws_nil ?_
  refine qe_then ?_
  refine wc_seq ?_
  refine wc_plain [(0, .x true)] (by kernel_rfl) ?_
  refine ws_l rfl rfl rfl rfl (rd_assign rfl) ?_
  refine ws_nil ?_
  refine qe_then ?_
  refine wc_seq ?_
  refine wc_seq ?_
  refine wc_plain [(0, .x true)] (by kernel_rfl) ?_
  refine ws_l rfl rfl rfl rfl (rd_assign rfl) ?_
  refine ws_nil ?_
  refine qe_then ?_
  refine wc_block ?_
  refine wc_loop (fun mz ac w1 => ∃ (j : Nat) (v5 : Value) (ν5 : Heap), mz = out.length - j ∧ (j ≤ out.length) ∧ (OwnR w.heap.size 37 32 v5 ν5 ((out.take j).map fun q => q.2.id).length (idsL ((out.take j).map fun q => q.2.id))) ∧ St 25 w [] [(0, v), (1, v2), (5, v5), (6, I j)] (ν5 ++ φ) ac w1) _ (fun ac w1 hs => ⟨0, .slice none 0 0, [], rfl, (by omega), (OwnR.nil _ _ _), st_sub hs _ rfl⟩) ?_
  rintro _ ac1 wl1 ⟨j, v5, ν5, rfl, hj, hown, hs1⟩
  refine wc_at hs1 ?_
  refine wc_seq ?_
  refine wc_seq ?_
  refine wc_plain [(0, .x true), (1, .x true), (2, .x true), (3, .x true)] (by kernel_rfl) ?_
  refine ws_l rfl rfl rfl rfl (rd_move rfl) ?_
  refine ws_l rfl rfl rfl rfl (rd_move rfl) ?_
  refine ws_l rfl rfl rfl rfl (rd_lenS hsrc2 rfl Try.underlying66) ?_
  refine ws_lcmp rfl rfl rfl (rfl) (rfl) (rfl) ?_ ?_
  · intro h10
    refine ws_nil ?_
    refine qe_then ?_
    refine wc_true rfl ?_
    refine wc_skip ?_
    refine qe_then ?_
    refine wc_seq ?_
    refine wc_block ?_
    refine wc_plain [(0, .x true), (1, .x true), (2, .x true), (3, .x true), (4, .x true), (5, .x true), (6, .x true), (7, .x true), (8, .x true), (9, .x true), (10, .x true), (11, .x true)] (by kernel_rfl) ?_
    refine ws_l rfl rfl rfl rfl (rd_move rfl) ?_
    refine ws_l rfl rfl rfl rfl (rd_move rfl) ?_
    refine ws_l rfl rfl rfl rfl (rd_move rfl) ?_
    refine ws_l rfl rfl rfl rfl (rd_move rfl) ?_
    obtain ⟨ba, oa, ca, csa, Ea, fra, rfl, hma, hca⟩ := Src.opened hsrc2 (by simp only [cmpP] at h10; omega)
    have hmia : HM ba (.cells csa Ea fra) φ := ⟨hma⟩
    obtain ⟨q, hq⟩ := at_ex (l := out) (j := j) (by simp only [cmpP] at h10; omega)
    have atq : GetAt csa (oa + j * 1) (I (q.1 : Nat)) := ix_src hca hq
    have hlq := hall q (List.mem_of_getElem? hq)
    have hql := (List.getElem?_eq_some_iff.1 hlq).1
    obtain ⟨bv, ov, cv, csv, Ev, frv, rfl, hmv, hcv⟩ := Src.opened hsrc (by omega)
    have hmiv : HM bv (.cells csv Ev frv) φ := ⟨hmv⟩
    have atqr : AtR csv (ov + q.1 * 82) q.2 := at_r hcv hlq
    refine ws_l rfl rfl rfl rfl (rd_index (oa + j * 1) rfl rfl Try.underlying66 Try.sizeOf3 ⟨by omega, by simp only [cmpP] at h10; omega⟩ (by simp)) ?_
    refine ws_l rfl rfl rfl rfl (rd_load rfl) ?_
    refine ws_l rfl rfl rfl rfl (rd_index (ov + q.1 * 82) rfl rfl Try.underlying22 Try.sizeOf46 ⟨by omega, by omega⟩ (by simp)) ?_
    refine ws_l rfl rfl rfl rfl (rd_fieldAddr rfl) ?_
    refine ws_l rfl rfl rfl rfl (rd_load rfl) ?_
    refine ws_buildSlice rfl rfl rfl rfl ?_
    intro b22 hb22
    refine ws_append rfl rfl rfl rfl rfl hown (by simp [idC_size]) (idC_one _) (by simp only [List.length_map, List.length_take, maxLen]; omega) (by simp only [List.length_map, List.length_take]; omega) (fun _ _ _ h => by first | (cases h; done) | (simp only [List.mem_append, List.mem_cons] at h ⊢; grind) | skip) ?_
    intro v5' ν5' hown5'
    refine ws_l rfl rfl rfl rfl (rd_assign rfl) ?_
    refine ws_nil ?_
    refine qe_block ?_
    refine qe_then ?_
    refine wc_plain [(0, .x true), (1, .x true), (2, .x true)] (by kernel_rfl) ?_
    refine ws_l rfl rfl rfl rfl (rd_move rfl) ?_
    refine ws_l rfl rfl rfl rfl (rd_arith (((j + 1 : Nat) : Int)) rfl rfl rfl (by rw [wrap_i64 _ (by omega) (by omega)]; omega)) ?_
    refine ws_l rfl rfl rfl rfl (rd_assign rfl) ?_
    refine ws_nil ?_
    exact qe_loop fun ac2 w2 hs2 => ⟨_, by (simp only [cmpP] at h10; omega), j + 1, v5', ν5', rfl, (by simp only [cmpP] at h10; omega), (by rw [take_at hq, List.map_append]; exact Row.app (enc := idL) (ys := [q.2.id]) hown5' rfl (by simp)), st_sub hs2 _ rfl⟩
  · intro h10
    refine ws_nil ?_
    refine qe_then ?_
    refine wc_false rfl ?_
    refine wc_exit ?_
    refine qe_then_exit ?_
    refine qe_then_exit ?_
    refine qe_block_exit ?_
    refine qe_then ?_
    refine wc_keep [(5, _)] rfl ?_
    refine wc_seq ?_
    refine wc_plain [(0, .x true), (1, .x true)] (by kernel_rfl) ?_
    refine ws_l rfl rfl rfl rfl (rd_move rfl) ?_
    refine ws_l rfl rfl rfl rfl (rd_assign rfl) ?_
    refine ws_nil ?_
    refine qe_then ?_
    refine wc_ret ?_
    refine qe_body _ (.inl rfl) (res1 rfl (RV.tmp rfl)) ?_
    rw [List.take_of_length_le (by simp only [cmpP] at h10; omega)] at hown
    obtain ⟨gv, rfl, -⟩ := OwnR.gv hown
    exact ret_end fun w hp hn ho => ⟨gv, ν5, rfl, hown, (hp.mono SubH.mem)⟩

end Go.Proofs.Ytaagmgpfpaanlaa
