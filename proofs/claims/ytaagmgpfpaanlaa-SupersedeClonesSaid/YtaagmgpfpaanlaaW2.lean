/- Walks: To, clones, New, Has, Len. No conditions. -/
import Derived.Test.YtaagmgpfpaanlaaSet
import Derived.Test.YtaagmgpfpaanlaaW1
namespace Go.Proofs.Ytaagmgpfpaanlaa
open Go Go.RowKit Go.Sx
set_option linter.unusedSimpArgs false
set_option linter.unusedVariables false

set_option maxRecDepth 100000 in
set_option maxHeartbeats 1000000 in
theorem to_ret (r : RR) (w : World) : Ret Try.prog 19 [rrK r] w [] (fun v w' => ∃ (g' : GV) (νg : Heap), v = .agg (rowC r g') ∧ OwnR w.heap.size 9 1 g'.v νg (gi r.grp).length (gvL r.grp) ∧ HpOK νg w') := by
  refine enter (n := 34) (args := [rrK r]) [] [] Try.func19 rfl rfl rfl (HpOK.nil w) (by simp) ?_
  refine wc_seq ?_
  refine wc_plain [(0, .x true), (1, .x true)] (by kernel_rfl) ?_
  refine ws_box rfl rfl rfl rfl ?_
  intro b1 hb1
  refine ws_alloc rfl rfl rfl ?_
  intro b2 hb2
  refine ws_nil ?_
  refine qe_then ?_
  refine wc_seq ?_
  refine wc_plain [(0, .x true), (1, .x true), (2, .x true), (3, .x true), (4, .x true), (5, .x true), (6, .x true), (7, .x true), (8, .x true), (9, .x true), (10, .x true)] (by kernel_rfl) ?_
  refine ws_l rfl rfl rfl rfl (rd_fieldAddr rfl) ?_
  refine ws_l rfl rfl rfl rfl (rd_load rfl) ?_
  refine ws_l rfl rfl rfl rfl (rd_fieldAddr rfl) ?_
  refine ws_l rfl rfl rfl rfl (rd_load rfl) ?_
  refine ws_l rfl rfl rfl rfl (rd_fieldAddr rfl) ?_
  refine ws_l rfl rfl rfl rfl (rd_load rfl) ?_
  refine ws_l rfl rfl rfl rfl (rd_fieldAddr rfl) ?_
  refine ws_l rfl rfl rfl rfl (rd_load rfl) ?_
  refine ws_l rfl rfl rfl rfl (rd_build rfl) ?_
  refine ws_alloc rfl rfl rfl ?_
  intro b3 hb3
  refine ws_store rfl rfl rfl rfl (by first | exact .inl (by assumption) | exact .inr (by simp)) (fun _ h _ => by first | (cases h; done) | exact List.mem_cons_of_mem _ h | exact List.mem_cons_of_mem _ (List.mem_cons_of_mem _ h) | (simp at h ⊢; simp [h])) ?_
  refine ws_nil ?_
  refine qe_then ?_
  refine wc_keep [(1, _), (2, _), (3, _)] rfl ?_
  refine wc_seq ?_
  refine wc_seq ?_
  refine wc_plain [(0, .x true)] (by kernel_rfl) ?_
  rw [show rowC (⟨r.id, r.au, r.date, r.sup, 0⟩ : RR) gnil = rowC r gnil from rfl]
  refine ws_l rfl rfl rfl rfl (rd_assign rfl) ?_
  refine ws_nil ?_
  refine qe_then ?_
  refine wc_block ?_
  refine wc_loop (fun mz ac w1 => ∃ (j : Nat) (gv : GV) (νg : Heap), mz = 8 - j ∧ (j ≤ 8) ∧ (OwnR w.heap.size 9 1 gv.v νg (giL r.grp j).length ((giL r.grp j).map fun i => Value.string (gstr i))) ∧ St 34 w [] [(1, ptr b1), (2, ptr b2), (3, ptr b3), (4, I j)] (νg ++ [(b3, .cells (rowC r gv) 43 (0, 0)), (b2, .cells (rowC r0 gnil) 43 (0, 0)), (b1, .cells (rrC r) 46 (0, 0))]) ac w1) _ (fun ac w1 hs => ⟨0, gnil, [], rfl, (by omega), (OwnR.nil _ _ _), st_sub hs _ rfl⟩) ?_
  rintro _ ac1 wl1 ⟨j, gv, νg, rfl, hj, hown, hs1⟩
  refine wc_at hs1 ?_
  refine wc_seq ?_
  refine wc_seq ?_
  refine wc_plain [(0, .x true), (1, .x true)] (by kernel_rfl) ?_
  refine ws_l rfl rfl rfl rfl (rd_move rfl) ?_
  refine ws_lcmp rfl rfl rfl (rfl) (rfl) (rfl) ?_ ?_
  · intro h15
    refine ws_nil ?_
    refine qe_then ?_
    refine wc_true rfl ?_
    refine wc_skip ?_
    refine qe_then ?_
    refine wc_seq ?_
    refine wc_block ?_
    refine wc_seq ?_
    refine wc_plain [(0, .x true), (1, .x true), (2, .x true), (3, .x true), (4, .x true), (5, .x true)] (by kernel_rfl) ?_
    refine ws_l rfl rfl rfl rfl (rd_fieldAddr rfl) ?_
    refine ws_l rfl rfl rfl rfl (rd_load rfl) ?_
    refine ws_l rfl rfl rfl rfl (rd_move rfl) ?_
    refine ws_l rfl rfl rfl rfl (rd_shr _ rfl rfl (by omega) (shr8 _ j (by simp only [cmpP] at h15; omega))) ?_
    refine ws_l rfl rfl rfl rfl (rd_bits _ rfl rfl (and1 _ (Nat.lt_of_le_of_lt (Nat.div_le_self _ _) r.grp.toNat_lt))) ?_
    refine ws_lcmp rfl rfl rfl (rfl) (rfl) (rfl) ?_ ?_
    · intro h23
      have hbit : r.grp.toNat / 2 ^ j % 2 = 1 := by simp only [cmpP] at h23; omega
      refine ws_nil ?_
      refine qe_then ?_
      refine wc_true rfl ?_
      refine wc_drawn mixedT _ (fun _ h => h) [(0, .r), (1, .r), (2, .r), (3, .r), (4, .r), (5, .r), (6, .x false), (7, .x true), (8, .x true), (9, .x true)] (by kernel_rfl) ?_
      refine ws_r rfl rfl rfl rfl (rd_fieldAddr rfl) ?_
      refine ws_r rfl rfl rfl rfl (rd_load rfl) ?_
      refine ws_r rfl rfl rfl rfl (rd_move rfl) ?_
      refine ws_r rfl rfl rfl rfl (rd_move rfl) ?_
      refine ws_r rfl rfl rfl rfl (rd_arith (((j + 1 : Nat) : Int)) rfl rfl rfl (by rw [wrap_i64 _ (by omega) (by omega)]; omega)) ?_
      refine ws_r rfl rfl rfl rfl (rd_strslice (i := j) (j := j + 1) Try.underlying9 rfl rfl rfl (by omega) (by simp only [cmpP] at h15; show j + 1 ≤ 8; omega) (abc j (by simp only [cmpP] at h15; omega))) ?_
      refine ws_buildSlice rfl rfl rfl rfl ?_
      intro b30 hb30
      refine ws_late rfl ?_
      refine ws_append rfl rfl rfl rfl rfl hown (by simp) (by simp [Value.oneCell']) (by have := giL_len r.grp j; simp only [maxLen]; omega) (by have := giL_len r.grp j; omega) (fun _ _ _ h => by first | (cases h; done) | skip) ?_
      intro v' ν' hown'
      obtain ⟨gv', rfl, -⟩ := OwnR.gv hown'
      refine ws_l rfl rfl rfl rfl (rd_fieldAddr rfl) ?_
      refine ws_store rfl rfl rfl rfl (by first | exact .inl (by assumption) | exact .inr (by simp)) (fun _ h _ => by first | (cases h; done) | exact List.mem_cons_of_mem _ h | exact List.mem_cons_of_mem _ (List.mem_cons_of_mem _ h) | (simp at h ⊢; simp [h])) ?_
      refine ws_nil ?_
      refine qe_block ?_
      refine qe_then ?_
      refine wc_plain [(0, .x true), (1, .x true), (2, .x true)] (by kernel_rfl) ?_
      refine ws_l rfl rfl rfl rfl (rd_move rfl) ?_
      refine ws_l rfl rfl rfl rfl (rd_arith (((j + 1 : Nat) : Int)) rfl rfl rfl (by rw [wrap_i64 _ (by omega) (by omega)]; omega)) ?_
      refine ws_l rfl rfl rfl rfl (rd_assign rfl) ?_
      refine ws_nil ?_
      exact qe_loop fun ac2 w2 hs2 => ⟨_, by omega, j + 1, gv', ν', rfl, (by omega), (by rw [giL_succ, if_pos hbit]; simpa using hown'), st_sub hs2 _ rfl⟩
    · intro h23
      have hbit : ¬ r.grp.toNat / 2 ^ j % 2 = 1 := by simp only [cmpP] at h23; omega
      refine ws_nil ?_
      refine qe_then ?_
      refine wc_false rfl ?_
      refine wc_skip ?_
      refine qe_block ?_
      refine qe_then ?_
      refine wc_plain [(0, .x true), (1, .x true), (2, .x true)] (by kernel_rfl) ?_
      refine ws_l rfl rfl rfl rfl (rd_move rfl) ?_
      refine ws_l rfl rfl rfl rfl (rd_arith (((j + 1 : Nat) : Int)) rfl rfl rfl (by rw [wrap_i64 _ (by omega) (by omega)]; omega)) ?_
      refine ws_l rfl rfl rfl rfl (rd_assign rfl) ?_
      refine ws_nil ?_
      exact qe_loop fun ac2 w2 hs2 => ⟨_, by omega, j + 1, gv, νg, rfl, (by omega), (by rw [giL_succ, if_neg hbit]; exact hown), st_sub hs2 _ rfl⟩
  · intro h15
    refine ws_nil ?_
    refine qe_then ?_
    refine wc_false rfl ?_
    refine wc_exit ?_
    refine qe_then_exit ?_
    refine qe_then_exit ?_
    refine qe_block_exit ?_
    refine qe_then ?_
    refine wc_seq ?_
    refine wc_plain [(0, .x true), (1, .x true)] (by kernel_rfl) ?_
    refine ws_l rfl rfl rfl rfl (rd_load rfl) ?_
    refine ws_store rfl rfl rfl rfl (by first | exact .inl (by assumption) | exact .inr (by simp)) (fun _ h _ => by first | (cases h; done) | exact List.mem_cons_of_mem _ h | exact List.mem_cons_of_mem _ (List.mem_cons_of_mem _ h) | (simp at h ⊢; simp [h])) ?_
    refine ws_nil ?_
    refine qe_then ?_
    refine wc_keep [(2, _)] rfl ?_
    refine wc_ret ?_
    refine qe_body _ (.inl rfl) (res1 rfl (RV.cell rfl)) ?_
    have hj8 : j = 8 := by simp only [cmpP] at h15; omega
    subst hj8
    exact ret_end fun w hp hn ho => ⟨gv, νg, rfl, by simpa [gvL, gi, giL] using hown, hp.mono (by intro q hq; simp [hq])⟩
set_option maxRecDepth 100000 in
set_option maxHeartbeats 1000000 in
theorem idclone_ret (v : Value) (ν : Heap) (n : Nat) (ids : List Id) (hsrc : Src ν v 32 n (idsL ids)) (hlen : n < 1048576) (w : World) (hν : HpOK ν w) (hnd : (ν.map Prod.fst).Nodup) : Ret Try.prog 51 [v] w [] (fun u w' => ∃ (g' : GV) (νg : Heap), u = g'.v ∧ OwnR w.heap.size 38 32 g'.v νg n (idsL ids) ∧ HpOK νg w') := by
  refine enter (n := 8) (args := [v]) [] ν Try.func51 rfl rfl rfl hν hnd ?_
  refine wc_seq ?_
  refine wc_plain [(0, .x true)] (by kernel_rfl) ?_
  refine ws_l rfl rfl rfl rfl (rd_assign rfl) ?_
  refine ws_nil ?_
  refine qe_then ?_
  refine wc_seq ?_
  refine wc_seq ?_
  refine wc_plain [(0, .x true), (1, .x true)] (by kernel_rfl) ?_
  refine ws_l rfl rfl rfl rfl (rd_move rfl) ?_
  rcases hsrc.2 with ⟨rfl, hz⟩ | ⟨A, cc, rfl, hA⟩
  ·
    refine ws_l rfl rfl rfl rfl (rd_slicenil rfl rfl Try.underlying26 rfl) ?_
    refine ws_nil ?_
    refine qe_then ?_
    refine wc_true rfl ?_
    refine wc_seq ?_
    refine wc_plain [(0, .x true)] (by kernel_rfl) ?_
    refine ws_l rfl rfl rfl rfl (rd_assign rfl) ?_
    refine ws_nil ?_
    refine qe_then ?_
    refine wc_ret ?_
    refine qe_then_ret ?_
    refine qe_body _ (.inl rfl) (res1 rfl (RV.tmp rfl)) ?_
    exact ret_end fun w hp hn ho => ⟨gnil, [], rfl, by have hl := hsrc.1; rw [hz] at hl; have he := List.eq_nil_of_length_eq_zero (l := idsL ids) (by omega); rw [hz, he]; exact OwnR.nil _ _ _, HpOK.nil _⟩
  ·
    refine ws_l rfl rfl rfl rfl (rd_slicenil rfl rfl Try.underlying26 rfl) ?_
    refine ws_nil ?_
    refine qe_then ?_
    refine wc_false rfl ?_
    refine wc_skip ?_
    refine qe_then ?_
    refine wc_seq ?_
    refine wc_plain [(0, .x true), (1, .x true), (2, .x true), (3, .x true)] (by kernel_rfl) ?_
    refine ws_buildSlice rfl rfl rfl rfl ?_
    intro b5 hb5
    refine ws_l rfl rfl rfl rfl (rd_move rfl) ?_
    refine ws_appendS rfl rfl rfl rfl rfl (OwnR.lit0 (E := 38) (k := 32) hb5) (hsrc.mono (fun _ h => by simp [h])) (idsL_one _) (by simp only [maxLen]; omega) (by omega) (fun _ _ _ h => by first | (cases h; done) | skip) ?_
    intro v' ν' hown'
    refine ws_l rfl rfl rfl rfl (rd_assign rfl) ?_
    refine ws_nil ?_
    refine qe_then ?_
    refine wc_keep [(2, _)] rfl ?_
    refine wc_ret ?_
    refine qe_body _ (.inl rfl) (res1 rfl (RV.tmp rfl)) ?_
    obtain ⟨gv', rfl, -⟩ := OwnR.gv hown'
    exact ret_end fun w hp hn ho => ⟨gv', ν', rfl, by simpa using hown', hp.mono (by intro q hq; simp [hq])⟩
set_option maxRecDepth 100000 in
set_option maxHeartbeats 1000000 in
theorem strclone_ret (v : Value) (ν : Heap) (n : Nat) (xs : List Value) (h1 : ∀ u ∈ xs, u.oneCell' = true) (hsrc : Src ν v 1 n (xs)) (hlen : n < 1048576) (w : World) (hν : HpOK ν w) (hnd : (ν.map Prod.fst).Nodup) : Ret Try.prog 78 [v] w [] (fun u w' => ∃ (g' : GV) (νg : Heap), u = g'.v ∧ OwnR w.heap.size 9 1 g'.v νg n (xs) ∧ HpOK νg w') := by
  refine enter (n := 8) (args := [v]) [] ν Try.func78 rfl rfl rfl hν hnd ?_
  refine wc_seq ?_
  refine wc_plain [(0, .x true)] (by kernel_rfl) ?_
  refine ws_l rfl rfl rfl rfl (rd_assign rfl) ?_
  refine ws_nil ?_
  refine qe_then ?_
  refine wc_seq ?_
  refine wc_seq ?_
  refine wc_plain [(0, .x true), (1, .x true)] (by kernel_rfl) ?_
  refine ws_l rfl rfl rfl rfl (rd_move rfl) ?_
  rcases hsrc.2 with ⟨rfl, hz⟩ | ⟨A, cc, rfl, hA⟩
  ·
    refine ws_l rfl rfl rfl rfl (rd_slicenil rfl rfl Try.underlying41 rfl) ?_
    refine ws_nil ?_
    refine qe_then ?_
    refine wc_true rfl ?_
    refine wc_seq ?_
    refine wc_plain [(0, .x true)] (by kernel_rfl) ?_
    refine ws_l rfl rfl rfl rfl (rd_assign rfl) ?_
    refine ws_nil ?_
    refine qe_then ?_
    refine wc_ret ?_
    refine qe_then_ret ?_
    refine qe_body _ (.inl rfl) (res1 rfl (RV.tmp rfl)) ?_
    exact ret_end fun w hp hn ho => ⟨gnil, [], rfl, by have hl := hsrc.1; rw [hz] at hl; have he := List.eq_nil_of_length_eq_zero (l := xs) (by omega); rw [hz, he]; exact OwnR.nil _ _ _, HpOK.nil _⟩
  ·
    refine ws_l rfl rfl rfl rfl (rd_slicenil rfl rfl Try.underlying41 rfl) ?_
    refine ws_nil ?_
    refine qe_then ?_
    refine wc_false rfl ?_
    refine wc_skip ?_
    refine qe_then ?_
    refine wc_seq ?_
    refine wc_plain [(0, .x true), (1, .x true), (2, .x true), (3, .x true)] (by kernel_rfl) ?_
    refine ws_buildSlice rfl rfl rfl rfl ?_
    intro b5 hb5
    refine ws_l rfl rfl rfl rfl (rd_move rfl) ?_
    refine ws_appendS rfl rfl rfl rfl rfl (OwnR.lit0 (E := 9) (k := 1) hb5) (hsrc.mono (fun _ h => by simp [h])) (h1) (by simp only [maxLen]; omega) (by omega) (fun _ _ _ h => by first | (cases h; done) | skip) ?_
    intro v' ν' hown'
    refine ws_l rfl rfl rfl rfl (rd_assign rfl) ?_
    refine ws_nil ?_
    refine qe_then ?_
    refine wc_keep [(2, _)] rfl ?_
    refine wc_ret ?_
    refine qe_body _ (.inl rfl) (res1 rfl (RV.tmp rfl)) ?_
    obtain ⟨gv', rfl, -⟩ := OwnR.gv hown'
    exact ret_end fun w hp hn ho => ⟨gv', ν', rfl, by simpa using hown', hp.mono (by intro q hq; simp [hq])⟩
theorem idclone_nil (w : World) : Ret Try.prog 51 [.slice none 0 0] w [] (fun u _ => u = .slice none 0 0)  := by
  refine enter (n := 8) (args := [.slice none 0 0]) [] [] Try.func51 rfl rfl rfl (HpOK.nil w) (by simp) ?_
  refine wc_seq ?_
  refine wc_plain [(0, .x true)] (by kernel_rfl) ?_
  refine ws_l rfl rfl rfl rfl (rd_assign rfl) ?_
  refine ws_nil ?_
  refine qe_then ?_
  refine wc_seq ?_
  refine wc_seq ?_
  refine wc_plain [(0, .x true), (1, .x true)] (by kernel_rfl) ?_
  refine ws_l rfl rfl rfl rfl (rd_move rfl) ?_
  refine ws_l rfl rfl rfl rfl (rd_slicenil rfl rfl Try.underlying26 rfl) ?_
  refine ws_nil ?_
  refine qe_then ?_
  refine wc_true rfl ?_
  refine wc_seq ?_
  refine wc_plain [(0, .x true)] (by kernel_rfl) ?_
  refine ws_l rfl rfl rfl rfl (rd_assign rfl) ?_
  refine ws_nil ?_
  refine qe_then ?_
  refine wc_ret ?_
  refine qe_then_ret ?_
  refine qe_body _ (.inl rfl) (res1 rfl (RV.tmp rfl)) ?_
  exact ret_end fun w hp hn ho => rfl
set_option maxRecDepth 100000 in
set_option maxHeartbeats 1000000 in
theorem copied_ret (r : RR) (g : GV) (ν : Heap) (hg : GOK ν g r.grp) (w : World) (hν : HpOK ν w) (hnd : (ν.map Prod.fst).Nodup) : Ret Try.prog 70 [.agg (rowC r g)] w [] (fun v w' => ∃ (g' : GV) (νg : Heap), v = .agg (rowC r g') ∧ OwnR w.heap.size 9 1 g'.v νg (gi r.grp).length (gvL r.grp) ∧ HpOK νg w') := by
  refine enter (n := 12) (args := [.agg (rowC r g)]) [] ν Try.func70 rfl rfl rfl hν hnd ?_
  refine wc_seq ?_
  refine wc_plain [(0, .x true), (1, .x true)] (by kernel_rfl) ?_
  refine ws_box rfl rfl rfl rfl ?_
  intro b1 hb1
  refine ws_alloc rfl rfl rfl ?_
  intro b2 hb2
  refine ws_nil ?_
  refine qe_then ?_
  refine wc_seq ?_
  refine wc_drawn mixedT _ (fun _ h => h) [(0, .r), (1, .r), (3, .r), (4, .r), (2, .x false), (6, .r), (5, .x false), (7, .x true), (8, .x true), (9, .x true)] (by kernel_rfl) ?_
  refine ws_r rfl rfl rfl rfl (rd_fieldAddr rfl) ?_
  refine ws_r rfl rfl rfl rfl (rd_load rfl) ?_
  refine ws_r rfl rfl rfl rfl (rd_fieldAddr rfl) ?_
  refine ws_r rfl rfl rfl rfl (rd_load rfl) ?_
  refine ws_call rfl rfl rfl rfl rfl (En.go) (fun w hp hn ho => strclone_ret g.v ν _ _ gvL_one (hg) (by have := gi_len r.grp; omega) w (hp.mono (by intro q hq; simp [hq])) hnd) (fun _ h => by cases h) (fun hh q h => by first | (cases h; done) | exact hh q h) ?_
  rintro v5 wa wb hpo hon hon2 hp1 ⟨g5, ν5, rfl, hown5, hν5⟩
  refine ⟨ν5, hν5, hown5.nd, fun b hb => .inl (hown5.far b hb), ?_⟩
  replace hown5 := hown5.mono hon.size
  refine ws_r rfl rfl rfl rfl (rd_fieldAddr rfl) ?_
  refine ws_callp rfl rfl rfl rfl rfl (En.go) (fun w hp hn ho => idclone_nil w) ?_
  refine ws_late rfl ?_
  refine ws_store rfl rfl rfl rfl (by first | exact .inl (by assumption) | exact .inr (by simp)) (fun _ h _ => by first | (cases h; done) | exact List.mem_cons_of_mem _ h | exact List.mem_cons_of_mem _ (List.mem_cons_of_mem _ h) | (simp at h ⊢; simp [h])) ?_
  refine ws_l rfl rfl rfl rfl (rd_fieldAddr rfl) ?_
  refine ws_store rfl rfl rfl rfl (by first | exact .inl (by assumption) | exact .inr (by simp)) (fun _ h _ => by first | (cases h; done) | exact List.mem_cons_of_mem _ h | exact List.mem_cons_of_mem _ (List.mem_cons_of_mem _ h) | (simp at h ⊢; simp [h])) ?_
  refine ws_nil ?_
  refine qe_then ?_
  refine wc_keep [(1, _), (2, _)] rfl ?_
  refine wc_seq ?_
  refine wc_plain [(0, .x true), (1, .x true)] (by kernel_rfl) ?_
  refine ws_l rfl rfl rfl rfl (rd_load rfl) ?_
  refine ws_store rfl rfl rfl rfl (by first | exact .inl (by assumption) | exact .inr (by simp)) (fun _ h _ => by first | (cases h; done) | exact List.mem_cons_of_mem _ h | exact List.mem_cons_of_mem _ (List.mem_cons_of_mem _ h) | (simp at h ⊢; simp [h])) ?_
  refine ws_nil ?_
  refine qe_then ?_
  refine wc_ret ?_
  refine qe_body _ (.inl rfl) (res1 rfl (RV.cell rfl)) ?_
  exact ret_end fun w hp hn ho => ⟨g5, ν5, rfl, hown5, hp.mono (by intro q hq; simp [hq])⟩
set_option maxRecDepth 100000 in
set_option maxHeartbeats 1000000 in
theorem new_ret (w : World) : Ret Try.prog 43 [] w [] (fun v w' => ∃ p m k, v = ptr p ∧ w.heap.size ≤ p ∧ w.heap.size ≤ m ∧ w.heap.size ≤ k ∧ ([p, m, k]).Nodup ∧ HpOK (setC p m k #[] 0 #[] 0 []) w') := by
  refine enter (n := 5) (args := []) [] [] Try.func43 rfl rfl rfl (HpOK.nil w) (by simp) ?_
  refine wc_seq ?_
  refine wc_plain [(0, .x true)] (by kernel_rfl) ?_
  refine ws_l rfl rfl rfl rfl (rd_assign rfl) ?_
  refine ws_nil ?_
  refine qe_then ?_
  refine wc_seq ?_
  refine wc_plain [(0, .x true), (1, .x true), (2, .x true), (3, .x true), (4, .x true)] (by kernel_rfl) ?_
  refine ws_makeMap rfl rfl rfl ?_
  intro b1 hb1
  refine ws_makeMap rfl rfl rfl ?_
  intro b2 hb2
  refine ws_l rfl rfl rfl rfl (rd_build rfl) ?_
  refine ws_box rfl rfl rfl rfl ?_
  intro b4 hb4
  refine ws_l rfl rfl rfl rfl (rd_assign rfl) ?_
  refine ws_nil ?_
  refine qe_then ?_
  refine wc_ret ?_
  refine qe_body _ (.inl rfl) (res1 rfl (RV.tmp rfl)) ?_
  exact ret_end fun w hp hn ho => ⟨b4, b1, b2, rfl, hb4, hb1, hb2, by simp at hn ⊢; omega, hp.mono (by simp)⟩
set_option maxRecDepth 100000 in
set_option maxHeartbeats 1000000 in
theorem has_ret (p m k : Nat) (es ws : Array MapEntry) (c d : Nat) (L : RMap) (W : WMap) (own : List RR) (ν : Heap) (hL : MapIs idK hrK es c L) (hW : MapIs idK wvK ws d W) (hok : SetOK ν L W own) (hlen : own.length < 8192) (id : Id) (w : World) (hη : HpOK (setC p m k es c ws d ν) w) (hnd : ((setC p m k es c ws d ν).map Prod.fst).Nodup) : Ret Try.prog 31 [ptr p, idK id] w [] (fun v _ => v = .bool (decide (∃ x ∈ own, x.id = id))) := by
  refine enter (n := 19) (args := [ptr p, idK id]) [] (setC p m k es c ws d ν) Try.func31 rfl rfl rfl hη hnd ?_
  refine wc_seq ?_
  refine wc_plain [(0, .x true), (1, .x true)] (by kernel_rfl) ?_
  refine ws_box rfl rfl rfl rfl ?_
  intro b3 hb3
  refine ws_l rfl rfl rfl rfl (rd_assign rfl) ?_
  refine ws_nil ?_
  refine qe_then ?_
  refine wc_seq ?_
  refine wc_seq ?_
  refine wc_plain [(0, .x true), (1, .x true)] (by kernel_rfl) ?_
  refine ws_l rfl rfl rfl rfl (rd_move rfl) ?_
  refine ws_l rfl rfl rfl rfl (rd_ptr_nil rfl rfl Try.underlying49 rfl) ?_
  refine ws_nil ?_
  refine qe_then ?_
  refine wc_false rfl ?_
  refine wc_skip ?_
  refine qe_then ?_
  refine wc_seq ?_
  refine wc_drawn mixedT _ (fun _ h => h) [(0, .r), (1, .r), (2, .r), (3, .r), (4, .r), (5, .r), (6, .r), (7, .r), (8, .r), (9, .x false), (10, .x false), (11, .x true)] (by kernel_rfl) ?_
  refine ws_r rfl rfl rfl rfl (rd_move rfl) ?_
  refine ws_r rfl rfl rfl rfl (rd_nil rfl) ?_
  refine ws_r rfl rfl rfl rfl (rd_fieldAddr rfl) ?_
  refine ws_r rfl rfl rfl rfl (rd_load rfl) ?_
  refine ws_r rfl rfl rfl rfl (rd_load rfl) ?_
  cases hlk : mlook L id with
  | none =>
    refine ws_r rfl rfl rfl rfl (rd_look2_none (ek := idK) (en := hrK) Try.underlying77 hL zero43 hlk rfl rfl) ?_
    refine ws_r rfl rfl rfl rfl (rd_move rfl) ?_
    refine ws_r rfl rfl rfl rfl (rd_extract rfl) ?_
    refine ws_r rfl rfl rfl rfl (rd_extract rfl) ?_
    refine ws_alloc rfl rfl rfl ?_
    intro b5 hb5
    refine ws_store rfl rfl rfl rfl (by first | exact .inl (by assumption) | exact .inr (by simp)) (fun _ h _ => by first | (cases h; done) | exact List.mem_cons_of_mem _ h | exact List.mem_cons_of_mem _ (List.mem_cons_of_mem _ h) | (simp at h ⊢; simp [h])) ?_
    refine ws_late rfl ?_
    refine ws_l rfl rfl rfl rfl (rd_assign rfl) ?_
    refine ws_nil ?_
    refine qe_then ?_
    refine wc_keep [(4, _), (6, _)] rfl ?_
    refine wc_seq ?_
    refine wc_plain [(0, .x true), (1, .x true)] (by kernel_rfl) ?_
    refine ws_l rfl rfl rfl rfl (rd_move rfl) ?_
    refine ws_l rfl rfl rfl rfl (rd_assign rfl) ?_
    refine ws_nil ?_
    refine qe_then ?_
    refine wc_ret ?_
    refine qe_body _ (.inl rfl) (res1 rfl (RV.tmp rfl)) ?_
    exact ret_end fun w hp hn ho => by rw [← hok.isSome, hlk]; rfl
  | some e0 =>
    refine ws_r rfl rfl rfl rfl (rd_look2_some (ek := idK) (en := hrK) Try.underlying77 hL hlk rfl rfl) ?_
    refine ws_r rfl rfl rfl rfl (rd_move rfl) ?_
    refine ws_r rfl rfl rfl rfl (rd_extract rfl) ?_
    refine ws_r rfl rfl rfl rfl (rd_extract rfl) ?_
    refine ws_alloc rfl rfl rfl ?_
    intro b5 hb5
    refine ws_store rfl rfl rfl rfl (by first | exact .inl (by assumption) | exact .inr (by simp)) (fun _ h _ => by first | (cases h; done) | exact List.mem_cons_of_mem _ h | exact List.mem_cons_of_mem _ (List.mem_cons_of_mem _ h) | (simp at h ⊢; simp [h])) ?_
    refine ws_late rfl ?_
    refine ws_l rfl rfl rfl rfl (rd_assign rfl) ?_
    refine ws_nil ?_
    refine qe_then ?_
    refine wc_keep [(4, _), (6, _)] rfl ?_
    refine wc_seq ?_
    refine wc_plain [(0, .x true), (1, .x true)] (by kernel_rfl) ?_
    refine ws_l rfl rfl rfl rfl (rd_move rfl) ?_
    refine ws_l rfl rfl rfl rfl (rd_assign rfl) ?_
    refine ws_nil ?_
    refine qe_then ?_
    refine wc_ret ?_
    refine qe_body _ (.inl rfl) (res1 rfl (RV.tmp rfl)) ?_
    exact ret_end fun w hp hn ho => by rw [← hok.isSome, hlk]; rfl
set_option maxRecDepth 100000 in
set_option maxHeartbeats 1000000 in
theorem len_ret (p m k : Nat) (es ws : Array MapEntry) (c d : Nat) (L : RMap) (W : WMap) (own : List RR) (ν : Heap) (hL : MapIs idK hrK es c L) (hW : MapIs idK wvK ws d W) (hok : SetOK ν L W own) (hlen : own.length < 8192) (w : World) (hη : HpOK (setC p m k es c ws d ν) w) (hnd : ((setC p m k es c ws d ν).map Prod.fst).Nodup) : Ret Try.prog 32 [ptr p] w [] (fun v _ => v = I own.length) := by
  refine enter (n := 10) (args := [ptr p]) [] (setC p m k es c ws d ν) Try.func32 rfl rfl rfl hη hnd ?_
  refine wc_seq ?_
  refine wc_plain [(0, .x true)] (by kernel_rfl) ?_
  refine ws_l rfl rfl rfl rfl (rd_assign rfl) ?_
  refine ws_nil ?_
  refine qe_then ?_
  refine wc_seq ?_
  refine wc_seq ?_
  refine wc_plain [(0, .x true), (1, .x true)] (by kernel_rfl) ?_
  refine ws_l rfl rfl rfl rfl (rd_move rfl) ?_
  refine ws_l rfl rfl rfl rfl (rd_ptr_nil rfl rfl Try.underlying49 rfl) ?_
  refine ws_nil ?_
  refine qe_then ?_
  refine wc_false rfl ?_
  refine wc_skip ?_
  refine qe_then ?_
  refine wc_seq ?_
  refine wc_plain [(0, .x true), (1, .x true), (2, .x true), (3, .x true), (4, .x true), (5, .x true)] (by kernel_rfl) ?_
  refine ws_l rfl rfl rfl rfl (rd_move rfl) ?_
  refine ws_l rfl rfl rfl rfl (rd_nil rfl) ?_
  refine ws_l rfl rfl rfl rfl (rd_fieldAddr rfl) ?_
  refine ws_l rfl rfl rfl rfl (rd_load rfl) ?_
  refine ws_l rfl rfl rfl rfl (rd_lenmap (ek := idK) (en := hrK) hL Try.underlying77 rfl) ?_
  refine ws_l rfl rfl rfl rfl (rd_assign rfl) ?_
  refine ws_nil ?_
  refine qe_then ?_
  refine wc_keep [(2, _)] rfl ?_
  refine wc_ret ?_
  refine qe_body _ (.inl rfl) (res1 rfl (RV.tmp rfl)) ?_
  exact ret_end fun w hp hn ho => by rw [hok.len]

end Go.Proofs.Ytaagmgpfpaanlaa
