/- Walk: Play. No conditions. -/
import Derived.Test.YtegjmmjjchpeoaaW6
import Derived.Test.YtegjmmjjchpeoaaRel
namespace Go.Proofs.Ytegjmmjjchpeoaa
open Go Go.RowKit Go.Sx
set_option linter.unusedSimpArgs false
set_option linter.unusedVariables false

set_option maxRecDepth 100000 in
set_option maxHeartbeats 1000000 in
theorem play_ret (vl : Value) (νl : Heap) (ops : List POp) (hsrc : Src νl vl 37 ops.length (ops.flatMap opL)) (w : World) (hνl : HpOK νl w) (hndl : (νl.map Prod.fst).Nodup) : Ret Try.prog 16 [vl] w [] (Played w) := by
  refine enter (n := 115) (args := [vl]) [] νl Try.func16 rfl rfl rfl hνl hndl ?_
  refine wc_seq ?_
  refine wc_plain [(0, .x true), (1, .x true), (2, .x true), (3, .x true)] (by kernel_rfl) ?_
  refine ws_l rfl rfl rfl rfl (rd_assign rfl) ?_
  refine ws_l rfl rfl rfl rfl (rd_assign rfl) ?_
  refine ws_l rfl rfl rfl rfl (rd_assign rfl) ?_
  refine ws_l rfl rfl rfl rfl (rd_assign rfl) ?_
  refine ws_nil ?_
  refine qe_then ?_
  refine wc_seq ?_
  refine wc_plain [(0, .x true), (1, .x true)] (by kernel_rfl) ?_
  refine ws_call rfl rfl rfl rfl rfl (En.go) (fun w hp hn ho => new_ret w) (fun _ h => by cases h) (fun hh q h => by first | (cases h; done) | exact hh q h) ?_
  rintro v14 wa wb hpo hon hon2 hp1 ⟨p, m, rfl, hp0, hm0, hne, hpm⟩
  refine ⟨hist p m 0 #[] 0, hpm, by simp [hne], fun b hb => .inl (by simp at hb; rcases hb with rfl | rfl; exact hp0; exact hm0), ?_⟩
  replace hp0 := Nat.le_trans hon.size hp0
  replace hm0 := Nat.le_trans hon.size hm0
  simp only [hist, List.cons_append, List.nil_append]
  refine ws_l rfl rfl rfl rfl (rd_assign rfl) ?_
  refine ws_nil ?_
  refine qe_then ?_
  refine wc_seq ?_
  refine wc_seq ?_
  refine wc_plain [(0, .x true)] (by kernel_rfl) ?_
  refine ws_l rfl rfl rfl rfl (rd_assign rfl) ?_
  refine ws_nil ?_
  refine qe_then ?_
  refine wc_block ?_
  refine wc_loop (fun mz ac w1 => ∃ (j : Nat) (cut : Int) (es : Array MapEntry) (clock : Nat) (L : HMap) (rows : List Ent) (vr : Value) (νr : Heap), mz = 40 - j ∧ (j ≤ 40) ∧ (MapIs idK entK es clock L) ∧ (Rel L rows) ∧ (rows.length ≤ j) ∧ (0 ≤ cut ∧ cut ≤ 105190559) ∧ (OwnR w.heap.size 24 36 vr νr rows.length (rows.flatMap entL)) ∧ (∀ y ∈ rows, checkE y = 0) ∧ St 115 w [] [(0, vl), (2, ptr p), (3, vr), (4, I cut), (6, I j)] ((p, .cells #[.map (some m), I cut] 86 (0, 0)) :: (m, .map es clock) :: (νr ++ νl)) ac w1) _ (fun ac w1 hs => ⟨0, 0, #[], 0, [], [], .slice none 0 0, [], rfl, (by omega), (MapIs.empty _ _ _), (Rel.nil), (by simp), (by omega), (OwnR.nil _ _ _), (by simp), st_sub hs _ rfl⟩) ?_
  rintro _ ac1 wl1 ⟨j, cut, es, clock, L, rows, vr, νr, rfl, hj, hL, hrel, hrl, hcut, hown, hchk, hs1⟩
  refine wc_at hs1 ?_
  refine wc_seq ?_
  refine wc_seq ?_
  refine wc_plain [(0, .x true), (1, .x true), (2, .x true), (3, .x true), (4, .x true), (5, .x true), (6, .x true), (7, .x true)] (by kernel_rfl) ?_
  refine ws_l rfl rfl rfl rfl (rd_move rfl) ?_
  refine ws_l rfl rfl rfl rfl (rd_move rfl) ?_
  refine ws_l rfl rfl rfl rfl (rd_lenS hsrc rfl Try.underlying34) ?_
  refine ws_lcmp rfl rfl rfl (rfl) (rfl) (rfl) ?_ ?_
  · intro h18
    refine ws_l rfl rfl rfl rfl (rd_move rfl) ?_
    refine ws_l rfl rfl rfl rfl (rd_move rfl) ?_
    refine ws_lcmp rfl rfl rfl (rfl) (rfl) (rfl) ?_ ?_
    · intro h21
      refine ws_l rfl rfl rfl rfl (rd_pick_t rfl rfl) ?_
      refine ws_nil ?_
      refine qe_then ?_
      refine wc_true rfl ?_
      refine wc_skip ?_
      refine qe_then ?_
      refine wc_seq ?_
      refine wc_block ?_
      refine wc_seq ?_
      refine wc_plain [(0, .x true), (1, .x true), (2, .x true), (3, .x true), (4, .x true), (5, .x true), (6, .x true)] (by kernel_rfl) ?_
      refine ws_l rfl rfl rfl rfl (rd_move rfl) ?_
      refine ws_l rfl rfl rfl rfl (rd_move rfl) ?_
      obtain ⟨bl, ol, cl, cs, El, frl, rfl, hml, hcs⟩ := Src.opened hsrc (by omega)
      have hmi : HM bl (.cells cs El frl) νl := ⟨hml⟩
      obtain ⟨o, ho⟩ := at_ex (l := ops) (j := j) (by omega)
      obtain ⟨ato, ato2⟩ := op_at hcs ho
      refine ws_l rfl rfl rfl rfl (rd_index (ol + j * 37) rfl rfl Try.underlying34 Try.sizeOf44 ⟨by omega, by omega⟩ (by simp)) ?_
      refine ws_l rfl rfl rfl rfl (rd_fieldAddr rfl) ?_
      refine ws_l rfl rfl rfl rfl (rd_load rfl) ?_
      refine ws_alloc rfl rfl rfl ?_
      intro b7 hb7
      refine ws_store rfl rfl rfl rfl (by first | exact .inl (by assumption) | exact .inr (by simp)) (fun _ h _ => by first | (cases h; done) | exact List.mem_cons_of_mem _ h | exact List.mem_cons_of_mem _ (List.mem_cons_of_mem _ h) | (simp at h ⊢; simp [h])) ?_
      refine ws_nil ?_
      refine qe_then ?_
      refine wc_seq ?_
      refine wc_plain [(0, .x true)] (by kernel_rfl) ?_
      refine ws_l rfl rfl rfl rfl (rd_assign rfl) ?_
      refine ws_nil ?_
      refine qe_then ?_
      refine wc_seq ?_
      refine wc_plain [(0, .x true), (1, .x true), (2, .x true), (3, .x true), (4, .x true), (5, .x true)] (by kernel_rfl) ?_
      refine ws_l rfl rfl rfl rfl (rd_move rfl) ?_
      refine ws_l rfl rfl rfl rfl (rd_move rfl) ?_
      refine ws_l rfl rfl rfl rfl (rd_index (ol + j * 37) rfl rfl Try.underlying34 Try.sizeOf44 ⟨by omega, by omega⟩ (by simp)) ?_
      refine ws_l rfl rfl rfl rfl (rd_fieldAddr rfl) ?_
      refine ws_l rfl rfl rfl rfl (rd_load rfl) ?_
      refine ws_l rfl rfl rfl rfl (rd_rem _ rfl rfl (by decide) rfl) ?_
      refine ws_nil ?_
      refine qe_then ?_
      refine wc_block ?_
      refine wc_seq ?_
      refine wc_plain [(0, .x true), (1, .x true)] (by kernel_rfl) ?_
      refine ws_lcmp rfl rfl rfl (rfl) (rfl) (rfl) ?_ ?_
      · intro h78
        refine ws_l rfl rfl rfl rfl (rd_assign rfl) ?_
        refine ws_nil ?_
        refine qe_then ?_
        refine wc_true rfl ?_
        refine wc_seq ?_
        refine wc_plain [(0, .x true), (1, .x true), (2, .x true), (3, .x true), (4, .x true), (5, .x true), (6, .x true), (7, .x true)] (by kernel_rfl) ?_
        refine ws_l rfl rfl rfl rfl (rd_move rfl) ?_
        refine ws_l rfl rfl rfl rfl (rd_load rfl) ?_
        refine ws_call rfl rfl rfl rfl rfl (En.go) (fun w hp hn ho => add_ref vr νr rows (hown.mono (Nat.zero_le _)) (by omega) o.x w (hp.mono (by intro q hq; simp [hq])) hown.nd) (fun _ h => by cases h) (fun hh q h => by first | (cases h; done) | exact hh q h) ?_
        rintro v82 wa wb hpo hon hon2 hp1 (⟨he, vc, νc, rfl, hoc, hνc⟩ | ⟨he, rfl⟩)
        · refine ⟨νc, hνc, hoc.nd, fun b hb => .inl (hoc.far b hb), ?_⟩
          replace hoc := hoc.mono hon.size
          refine ws_l rfl rfl rfl rfl (rd_move rfl) ?_
          refine ws_l rfl rfl rfl rfl (rd_extract rfl) ?_
          refine ws_l rfl rfl rfl rfl (rd_extract rfl) ?_
          refine ws_l rfl rfl rfl rfl (rd_assign rfl) ?_
          refine ws_l rfl rfl rfl rfl (rd_assign rfl) ?_
          refine ws_nil ?_
          refine qe_then ?_
          refine wc_seq ?_
          refine wc_plain [(0, .x true), (1, .x true), (2, .x true), (3, .x true), (4, .x true), (5, .x true)] (by kernel_rfl) ?_
          refine ws_l rfl rfl rfl rfl (rd_move rfl) ?_
          refine ws_l rfl rfl rfl rfl (rd_load rfl) ?_
          refine ws_callp rfl rfl rfl rfl rfl (En.go) (fun w hp hn ho => to_ret _ w) ?_
          refine ws_call rfl rfl rfl rfl rfl (En.go) (fun w hp hn ho => add_ret p m cut es clock L hL hne (by rw [hrel.len]; omega) o.x w (hp.mono (by simp))) (fun b hb => .inl (by simp at hb; subst hb; exact hm0)) (fun hh q h => by first | (cases h; done) | exact hh q h) ?_
          rintro v88 wa wb hpo hon hon2 hp1 ⟨rfl, es2, clock2, hm2, hL2⟩
          refine ⟨[(m, .map es2 clock2)], fun b o hm => by simp at hm; obtain ⟨rfl, rfl⟩ := hm; exact hm2, by simp, by simp, ?_⟩
          refine ws_l rfl rfl rfl rfl (rd_move rfl) ?_
          refine ws_l rfl rfl rfl rfl (rd_cmp_f rfl rfl rfl (by simp only [cmpP]; rw [hrel.isSome]; simp [he])) ?_
          refine ws_nil ?_
          refine qe_then ?_
          refine wc_false rfl ?_
          refine wc_skip ?_
          refine qe_block ?_
          refine qe_block ?_
          refine qe_then ?_
          refine wc_plain [(0, .x true), (1, .x true), (2, .x true)] (by kernel_rfl) ?_
          refine ws_l rfl rfl rfl rfl (rd_move rfl) ?_
          refine ws_l rfl rfl rfl rfl (rd_arith (((j + 1 : Nat) : Int)) rfl rfl rfl (by rw [wrap_i64 _ (by omega) (by omega)]; omega)) ?_
          refine ws_l rfl rfl rfl rfl (rd_assign rfl) ?_
          refine ws_nil ?_
          exact qe_loop fun ac2 w2 hs2 => ⟨_, by omega, j + 1, cut, es2, clock2, addL L o.x, insF o.x rows, vc, νc, rfl, (by omega), (hL2), (hrel.add o.x (by rw [hrel.isSome]; exact he)), (by rw [insF_len]; omega), (hcut), (hoc), (insF_chk hchk (addErr_ok he)), st_sub hs2 _ rfl⟩
        · refine ⟨[], HpOK.nil _, by simp, by simp, ?_⟩
          refine ws_l rfl rfl rfl rfl (rd_move rfl) ?_
          refine ws_l rfl rfl rfl rfl (rd_extract rfl) ?_
          refine ws_l rfl rfl rfl rfl (rd_extract rfl) ?_
          refine ws_l rfl rfl rfl rfl (rd_assign rfl) ?_
          refine ws_l rfl rfl rfl rfl (rd_assign rfl) ?_
          refine ws_nil ?_
          refine qe_then ?_
          refine wc_seq ?_
          refine wc_plain [(0, .x true), (1, .x true), (2, .x true), (3, .x true), (4, .x true), (5, .x true)] (by kernel_rfl) ?_
          refine ws_l rfl rfl rfl rfl (rd_move rfl) ?_
          refine ws_l rfl rfl rfl rfl (rd_load rfl) ?_
          refine ws_callp rfl rfl rfl rfl rfl (En.go) (fun w hp hn ho => to_ret _ w) ?_
          refine ws_call rfl rfl rfl rfl rfl (En.go) (fun w hp hn ho => add_ret p m cut es clock L hL hne (by rw [hrel.len]; omega) o.x w (hp.mono (by simp))) (fun b hb => .inl (by simp at hb; subst hb; exact hm0)) (fun hh q h => by first | (cases h; done) | exact hh q h) ?_
          rintro v88 wa wb hpo hon hon2 hp1 ⟨rfl, es2, clock2, hm2, hL2⟩
          refine ⟨[(m, .map es2 clock2)], fun b o hm => by simp at hm; obtain ⟨rfl, rfl⟩ := hm; exact hm2, by simp, by simp, ?_⟩
          refine ws_l rfl rfl rfl rfl (rd_move rfl) ?_
          refine ws_l rfl rfl rfl rfl (rd_cmp_f rfl rfl rfl (by simp only [cmpP]; rw [hrel.isSome]; simp [he])) ?_
          refine ws_nil ?_
          refine qe_then ?_
          refine wc_false rfl ?_
          refine wc_skip ?_
          refine qe_block ?_
          refine qe_block ?_
          refine qe_then ?_
          refine wc_plain [(0, .x true), (1, .x true), (2, .x true)] (by kernel_rfl) ?_
          refine ws_l rfl rfl rfl rfl (rd_move rfl) ?_
          refine ws_l rfl rfl rfl rfl (rd_arith (((j + 1 : Nat) : Int)) rfl rfl rfl (by rw [wrap_i64 _ (by omega) (by omega)]; omega)) ?_
          refine ws_l rfl rfl rfl rfl (rd_assign rfl) ?_
          refine ws_nil ?_
          exact qe_loop fun ac2 w2 hs2 => ⟨_, by omega, j + 1, cut, es2, clock2, addL L o.x, rows, vr, νr, rfl, (by omega), (hL2), (hrel.add_not o.x (by rw [hrel.isSome]; exact he)), (by omega), (hcut), (hown), (hchk), st_sub hs2 _ rfl⟩
      · intro h78
        refine ws_l rfl rfl rfl rfl (rd_assign rfl) ?_
        refine ws_nil ?_
        refine qe_then ?_
        refine wc_false rfl ?_
        refine wc_seq ?_
        refine wc_plain [(0, .x true), (1, .x true)] (by kernel_rfl) ?_
        refine ws_lcmp rfl rfl rfl (rfl) (rfl) (rfl) ?_ ?_
        · intro h95
          refine ws_l rfl rfl rfl rfl (rd_assign rfl) ?_
          refine ws_nil ?_
          refine qe_then ?_
          refine wc_true rfl ?_
          refine wc_seq ?_
          refine wc_plain [(0, .x true), (1, .x true), (2, .x true), (3, .x true), (4, .x true), (5, .x true), (6, .x true), (7, .x true), (8, .x true)] (by kernel_rfl) ?_
          refine ws_l rfl rfl rfl rfl (rd_move rfl) ?_
          refine ws_l rfl rfl rfl rfl (rd_fieldAddr rfl) ?_
          refine ws_l rfl rfl rfl rfl (rd_load rfl) ?_
          refine ws_call rfl rfl rfl rfl rfl (En.go) (fun w hp hn ho => gone_ref vr νr rows (hown.mono (Nat.zero_le _)) (by omega) o.x.id w (hp.mono (by intro q hq; simp [hq])) hown.nd) (fun _ h => by cases h) (fun hh q h => by first | (cases h; done) | exact hh q h) ?_
          rintro v100 wa wb hpo hon hon2 hp1 (⟨he, vc, νc, rfl, hoc, hνc⟩ | ⟨he, rfl⟩)
          · refine ⟨νc, hνc, hoc.nd, fun b hb => .inl (hoc.far b hb), ?_⟩
            replace hoc := hoc.mono hon.size
            refine ws_l rfl rfl rfl rfl (rd_move rfl) ?_
            refine ws_l rfl rfl rfl rfl (rd_extract rfl) ?_
            refine ws_l rfl rfl rfl rfl (rd_extract rfl) ?_
            refine ws_l rfl rfl rfl rfl (rd_assign rfl) ?_
            refine ws_l rfl rfl rfl rfl (rd_assign rfl) ?_
            refine ws_nil ?_
            refine qe_then ?_
            refine wc_seq ?_
            refine wc_plain [(0, .x true), (1, .x true), (2, .x true), (3, .x true), (4, .x true), (5, .x true)] (by kernel_rfl) ?_
            refine ws_l rfl rfl rfl rfl (rd_move rfl) ?_
            refine ws_l rfl rfl rfl rfl (rd_fieldAddr rfl) ?_
            refine ws_l rfl rfl rfl rfl (rd_load rfl) ?_
            refine ws_call rfl rfl rfl rfl rfl (En.go) (fun w hp hn ho => setgone_ret p m cut es clock L hL hne o.x.id w (hp.mono (by simp))) (fun b hb => .inl (by simp at hb; subst hb; exact hm0)) (fun hh q h => by first | (cases h; done) | exact hh q h) ?_
            rintro v106 wa wb hpo hon hon2 hp1 ⟨rfl, es2, clock2, hm2, hL2⟩
            refine ⟨[(m, .map es2 clock2)], fun b o hm => by simp at hm; obtain ⟨rfl, rfl⟩ := hm; exact hm2, by simp, by simp, ?_⟩
            refine ws_l rfl rfl rfl rfl (rd_move rfl) ?_
            refine ws_l rfl rfl rfl rfl (rd_cmp_f rfl rfl rfl (by simp only [cmpP]; rw [hrel.goneEq]; simp [he])) ?_
            refine ws_nil ?_
            refine qe_then ?_
            refine wc_false rfl ?_
            refine wc_skip ?_
            refine qe_block ?_
            refine qe_block ?_
            refine qe_then ?_
            refine wc_plain [(0, .x true), (1, .x true), (2, .x true)] (by kernel_rfl) ?_
            refine ws_l rfl rfl rfl rfl (rd_move rfl) ?_
            refine ws_l rfl rfl rfl rfl (rd_arith (((j + 1 : Nat) : Int)) rfl rfl rfl (by rw [wrap_i64 _ (by omega) (by omega)]; omega)) ?_
            refine ws_l rfl rfl rfl rfl (rd_assign rfl) ?_
            refine ws_nil ?_
            exact qe_loop fun ac2 w2 hs2 => ⟨_, by omega, j + 1, cut, es2, clock2, goneL L o.x.id, goneF o.x.id rows, vc, νc, rfl, (by omega), (hL2), (hrel.gone o.x.id (by rw [hrel.goneEq]; exact he)), (by rw [goneF_len]; omega), (hcut), (hoc), (goneF_chk hchk), st_sub hs2 _ rfl⟩
          · refine ⟨[], HpOK.nil _, by simp, by simp, ?_⟩
            refine ws_l rfl rfl rfl rfl (rd_move rfl) ?_
            refine ws_l rfl rfl rfl rfl (rd_extract rfl) ?_
            refine ws_l rfl rfl rfl rfl (rd_extract rfl) ?_
            refine ws_l rfl rfl rfl rfl (rd_assign rfl) ?_
            refine ws_l rfl rfl rfl rfl (rd_assign rfl) ?_
            refine ws_nil ?_
            refine qe_then ?_
            refine wc_seq ?_
            refine wc_plain [(0, .x true), (1, .x true), (2, .x true), (3, .x true), (4, .x true), (5, .x true)] (by kernel_rfl) ?_
            refine ws_l rfl rfl rfl rfl (rd_move rfl) ?_
            refine ws_l rfl rfl rfl rfl (rd_fieldAddr rfl) ?_
            refine ws_l rfl rfl rfl rfl (rd_load rfl) ?_
            refine ws_call rfl rfl rfl rfl rfl (En.go) (fun w hp hn ho => setgone_ret p m cut es clock L hL hne o.x.id w (hp.mono (by simp))) (fun b hb => .inl (by simp at hb; subst hb; exact hm0)) (fun hh q h => by first | (cases h; done) | exact hh q h) ?_
            rintro v106 wa wb hpo hon hon2 hp1 ⟨rfl, es2, clock2, hm2, hL2⟩
            refine ⟨[(m, .map es2 clock2)], fun b o hm => by simp at hm; obtain ⟨rfl, rfl⟩ := hm; exact hm2, by simp, by simp, ?_⟩
            refine ws_l rfl rfl rfl rfl (rd_move rfl) ?_
            refine ws_l rfl rfl rfl rfl (rd_cmp_f rfl rfl rfl (by simp only [cmpP]; rw [hrel.goneEq]; simp [he])) ?_
            refine ws_nil ?_
            refine qe_then ?_
            refine wc_false rfl ?_
            refine wc_skip ?_
            refine qe_block ?_
            refine qe_block ?_
            refine qe_then ?_
            refine wc_plain [(0, .x true), (1, .x true), (2, .x true)] (by kernel_rfl) ?_
            refine ws_l rfl rfl rfl rfl (rd_move rfl) ?_
            refine ws_l rfl rfl rfl rfl (rd_arith (((j + 1 : Nat) : Int)) rfl rfl rfl (by rw [wrap_i64 _ (by omega) (by omega)]; omega)) ?_
            refine ws_l rfl rfl rfl rfl (rd_assign rfl) ?_
            refine ws_nil ?_
            exact qe_loop fun ac2 w2 hs2 => ⟨_, by omega, j + 1, cut, es2, clock2, goneL L o.x.id, rows, vr, νr, rfl, (by omega), (hL2), (hrel.gone_not o.x.id (by rw [hrel.goneEq]; exact he)), (by omega), (hcut), (hown), (hchk), st_sub hs2 _ rfl⟩
        · intro h95
          refine ws_l rfl rfl rfl rfl (rd_assign rfl) ?_
          refine ws_nil ?_
          refine qe_then ?_
          refine wc_false rfl ?_
          refine wc_seq ?_
          refine wc_plain [(0, .x true), (1, .x true), (2, .x true), (3, .x true), (4, .x true), (5, .x true), (6, .x true), (7, .x true), (8, .x true), (9, .x true), (10, .x true), (11, .x true)] (by kernel_rfl) ?_
          refine ws_l rfl rfl rfl rfl (rd_move rfl) ?_
          refine ws_l rfl rfl rfl rfl (rd_move rfl) ?_
          refine ws_l rfl rfl rfl rfl (rd_fieldAddr rfl) ?_
          refine ws_l rfl rfl rfl rfl (rd_load rfl) ?_
          refine ws_call rfl rfl rfl rfl rfl (En.go) (fun w hp hn ho => forget_ref vr νr rows (hown.mono (Nat.zero_le _)) (by omega) cut o.x.arr w (hp.mono (by intro q hq; simp [hq])) hown.nd) (fun _ h => by cases h) (fun hh q h => by first | (cases h; done) | exact hh q h) ?_
          rintro v41 wa wb hpo hon hon2 hp1 ⟨v9, ν9, v10, ν10, rfl, hown9, hν9, hown10, hν10, hn910⟩
          refine ⟨ν9 ++ ν10, hν9.append hν10, hn910, fun b hb => .inl (by rw [List.map_append, List.mem_append] at hb; exact hb.elim (hown9.far b) (hown10.far b)), ?_⟩
          rw [List.append_assoc]
          replace hown9 := hown9.mono hon.size
          replace hown10 := hown10.mono hon.size
          refine ws_l rfl rfl rfl rfl (rd_move rfl) ?_
          refine ws_l rfl rfl rfl rfl (rd_extract rfl) ?_
          refine ws_l rfl rfl rfl rfl (rd_extract rfl) ?_
          refine ws_l rfl rfl rfl rfl (rd_extract rfl) ?_
          refine ws_l rfl rfl rfl rfl (rd_assign rfl) ?_
          refine ws_l rfl rfl rfl rfl (rd_assign rfl) ?_
          refine ws_l rfl rfl rfl rfl (rd_assign rfl) ?_
          refine ws_nil ?_
          refine qe_then ?_
          refine wc_seq ?_
          refine wc_plain [(0, .x true), (1, .x true), (2, .x true), (3, .x true), (4, .x true)] (by kernel_rfl) ?_
          refine ws_l rfl rfl rfl rfl (rd_move rfl) ?_
          refine ws_l rfl rfl rfl rfl (rd_fieldAddr rfl) ?_
          refine ws_l rfl rfl rfl rfl (rd_load rfl) ?_
          refine ws_call rfl rfl rfl rfl rfl (En.go) (fun w hp hn ho => forget_ret p m cut es clock L hL hne (by rw [hrel.len]; omega) o.x.arr w (hp.mono (by intro q hq; simp at hq ⊢; rcases hq with h | h <;> simp [h]))) (fun b hb => .inl (by simp at hb; rcases hb with rfl | rfl; exact hp0; exact hm0)) (fun hh q h => by first | (cases h; done) | exact hh q h) ?_
          rintro v48 wa wb hpo hon hon2 hp1 ⟨u27, ν27, gone, es2, L2, cut2, rfl, hown27, hν27, hh2, hL2, hLe, hc2, hgp, hgs⟩
          have hgone := hrel.sorted _ hgp hgs
          subst hgone
          have hpm : p < wa.heap.size ∧ m < wa.heap.size := ⟨hpo.lt (b := p) (o := .cells #[.map (some m), I cut] 86 (0, 0)) (by simp), hpo.lt (b := m) (o := .map es clock) (by simp)⟩
          refine ⟨ν27 ++ hist p m cut2 es2 clock, hν27.append hh2, nodup_app hown27.nd (by simp [hne]) hown27.far (by simp; exact hpm), fun b hb => by rw [List.map_append, List.mem_append] at hb; exact hb.elim (fun h => .inl (hown27.far b h)) (fun h => .inr (by simpa using h)), ?_⟩
          rw [List.append_assoc]; simp only [hist, List.cons_append, List.nil_append]
          rw [← hc2]
          have hfl : (rows.filter (fun x => forgetB x o.x.arr)).length ≤ rows.length := List.length_filter_le _ _
          replace hown27 := hown27.mono hon.size
          refine ws_l rfl rfl rfl rfl (rd_assign rfl) ?_
          refine ws_nil ?_
          refine qe_then ?_
          refine wc_seq ?_
          refine wc_seq ?_
          refine wc_plain [(0, .x true), (1, .x true), (2, .x true), (3, .x true), (4, .x true)] (by kernel_rfl) ?_
          refine ws_l rfl rfl rfl rfl (rd_move rfl) ?_
          refine ws_l rfl rfl rfl rfl (rd_lenO hown27 rfl Try.underlying46) ?_
          refine ws_l rfl rfl rfl rfl (rd_move rfl) ?_
          refine ws_l rfl rfl rfl rfl (rd_lenO hown10 rfl Try.underlying81) ?_
          refine ws_l rfl rfl rfl rfl (rd_cmp_f rfl rfl rfl (by simp [cmpP])) ?_
          refine ws_nil ?_
          refine qe_then ?_
          refine wc_false rfl ?_
          refine wc_skip ?_
          refine qe_then ?_
          refine wc_seq ?_
          refine wc_seq ?_
          refine wc_plain [(0, .x true)] (by kernel_rfl) ?_
          refine ws_l rfl rfl rfl rfl (rd_assign rfl) ?_
          refine ws_nil ?_
          refine qe_then ?_
          refine wc_block ?_
          refine wc_loop (fun mz ac w1 => ∃ (k : Nat), mz = (rows.filter (fun x => forgetB x o.x.arr)).length - k ∧ (k ≤ (rows.filter (fun x => forgetB x o.x.arr)).length) ∧ St 115 w [] [(0, .slice (some ⟨bl, ol, none⟩) ops.length cl), (2, ptr p), (3, vr), (4, I cut), (6, I j), (9, v9), (10, I cut2), (11, v10), (12, v48), (13, I k)] (ν27 ++ ((p, .cells #[.map (some m), I cut2] 86 (0, 0)) :: (m, .map es2 clock) :: (ν9 ++ (ν10 ++ (νr ++ νl))))) ac w1) _ (fun ac w1 hs => ⟨0, rfl, (by omega), st_sub hs _ rfl⟩) ?_
          rintro _ ac2 wl2 ⟨k, rfl, hk, hs2⟩
          refine wc_at hs2 ?_
          refine wc_seq ?_
          refine wc_seq ?_
          refine wc_plain [(0, .x true), (1, .x true), (2, .x true), (3, .x true)] (by kernel_rfl) ?_
          refine ws_l rfl rfl rfl rfl (rd_move rfl) ?_
          refine ws_l rfl rfl rfl rfl (rd_move rfl) ?_
          refine ws_l rfl rfl rfl rfl (rd_lenO hown27 rfl Try.underlying46) ?_
          refine ws_lcmp rfl rfl rfl (rfl) (rfl) (rfl) ?_ ?_
          · intro h60
            refine ws_nil ?_
            refine qe_then ?_
            refine wc_true rfl ?_
            refine wc_skip ?_
            refine qe_then ?_
            refine wc_seq ?_
            refine wc_block ?_
            refine wc_seq ?_
            refine wc_drawn mixedT _ (fun _ h => h) [(0, .r), (1, .r), (2, .r), (3, .r), (4, .r), (5, .r), (6, .r), (7, .r), (8, .x true)] (by kernel_rfl) ?_
            refine ws_r rfl rfl rfl rfl (rd_move rfl) ?_
            refine ws_r rfl rfl rfl rfl (rd_move rfl) ?_
            obtain ⟨g27, cap27, cur27, rfl, rfl, hg27, hcap27, hcur27⟩ := OwnR.opened hown27 (by omega)
            obtain ⟨y, hy⟩ := at_ex (l := rows.filter (fun x => forgetB x o.x.arr)) (j := k) (by omega)
            have hrd27 := reads_rowid27 (at_rowid hcur27 hy)
            refine ws_r rfl rfl rfl rfl (rd_ix rfl rfl Try.underlying46 Try.sizeOf27 (by omega)) ?_
            refine ws_r rfl rfl rfl rfl (rd_load rfl) ?_
            refine ws_r rfl rfl rfl rfl (rd_move rfl) ?_
            refine ws_r rfl rfl rfl rfl (rd_move rfl) ?_
            obtain ⟨g22, cap22, cur22, rfl, rfl, hg22, hcap22, hcur22⟩ := OwnR.opened hown10 (by omega)
            have hrd22 := reads_rowid22 (at_rowid hcur22 hy)
            refine ws_r rfl rfl rfl rfl (rd_ix rfl rfl Try.underlying81 Try.sizeOf22 (by omega)) ?_
            refine ws_r rfl rfl rfl rfl (rd_load rfl) ?_
            refine ws_late rfl ?_
            refine ws_lp _ rfl rfl rfl rfl (rd_neid rfl rfl Try.underlying22 (by kernel_rfl)) ?_ ?_
            · intro h71; exact absurd rfl h71
            · intro h71
              refine ws_nil ?_
              refine qe_then ?_
              refine wc_false rfl ?_
              refine wc_skip ?_
              refine qe_block ?_
              refine qe_then ?_
              refine wc_plain [(0, .x true), (1, .x true), (2, .x true)] (by kernel_rfl) ?_
              refine ws_l rfl rfl rfl rfl (rd_move rfl) ?_
              refine ws_l rfl rfl rfl rfl (rd_arith (((k + 1 : Nat) : Int)) rfl rfl rfl (by rw [wrap_i64 _ (by omega) (by omega)]; omega)) ?_
              refine ws_l rfl rfl rfl rfl (rd_assign rfl) ?_
              refine ws_nil ?_
              exact qe_loop fun ac2 w2 hs2 => ⟨_, by omega, k + 1, rfl, (by omega), st_sub hs2 _ rfl⟩
          · intro h60
            refine ws_nil ?_
            refine qe_then ?_
            refine wc_false rfl ?_
            refine wc_exit ?_
            refine qe_then_exit ?_
            refine qe_then_exit ?_
            refine qe_block_exit ?_
            refine qe_then ?_
            refine wc_plain [(0, .x true), (1, .x true), (2, .x true), (3, .x true)] (by kernel_rfl) ?_
            refine ws_l rfl rfl rfl rfl (rd_move rfl) ?_
            refine ws_l rfl rfl rfl rfl (rd_move rfl) ?_
            refine ws_l rfl rfl rfl rfl (rd_assign rfl) ?_
            refine ws_l rfl rfl rfl rfl (rd_assign rfl) ?_
            refine ws_nil ?_
            refine qe_block ?_
            refine qe_block ?_
            refine qe_then ?_
            refine wc_plain [(0, .x true), (1, .x true), (2, .x true)] (by kernel_rfl) ?_
            refine ws_l rfl rfl rfl rfl (rd_move rfl) ?_
            refine ws_l rfl rfl rfl rfl (rd_arith (((j + 1 : Nat) : Int)) rfl rfl rfl (by rw [wrap_i64 _ (by omega) (by omega)]; omega)) ?_
            refine ws_l rfl rfl rfl rfl (rd_assign rfl) ?_
            refine ws_nil ?_
            exact qe_loop fun ac2 w2 hs2 => ⟨_, by omega, j + 1, cut2, es2, clock, _, rows.filter (fun x => !forgetB x o.x.arr), v9, ν9, rfl, (by omega), (hL2), (by rw [hLe]; exact hrel.forget _), (Nat.le_trans (List.length_filter_le _ _) (by omega)), (by rw [hc2]; exact cut_bounds hcut), (hown9), (fun y hy => hchk y (List.mem_filter.1 hy).1), st_sub hs2 _ rfl⟩
    · intro h21
      refine ws_l rfl rfl rfl rfl (rd_pick_t rfl rfl) ?_
      refine ws_nil ?_
      refine qe_then ?_
      refine wc_false rfl ?_
      refine wc_exit ?_
      refine qe_then_exit ?_
      refine qe_then_exit ?_
      refine qe_block_exit ?_
      refine qe_then ?_
      refine wc_keep [(2, _), (3, _), (4, _)] rfl ?_
      refine wc_seq ?_
      refine wc_plain [(0, .x true), (1, .x true), (2, .x true), (3, .x true), (4, .x true), (5, .x true), (6, .x true)] (by kernel_rfl) ?_
      refine ws_l rfl rfl rfl rfl (rd_move rfl) ?_
      refine ws_l rfl rfl rfl rfl (rd_move rfl) ?_
      refine ws_l rfl rfl rfl rfl (rd_move rfl) ?_
      refine ws_l rfl rfl rfl rfl (rd_assign rfl) ?_
      refine ws_l rfl rfl rfl rfl (rd_assign rfl) ?_
      refine ws_l rfl rfl rfl rfl (rd_assign rfl) ?_
      refine ws_l rfl rfl rfl rfl (rd_assign rfl) ?_
      refine ws_nil ?_
      refine qe_then ?_
      refine wc_ret ?_
      refine qe_body _ (.inl rfl) (res4 rfl (RV.tmp rfl) (RV.tmp rfl) (RV.tmp rfl) (RV.tmp rfl)) ?_
      exact ret_end fun w hp hn ho => ⟨p, m, cut, es, clock, L, rows, vr, νr, rfl, hp0, hm0, hp.mono (by intro q hq; simp at hq ⊢; rcases hq with h | h | h <;> simp [h]), hn.sublist (List.Sublist.map _ ((List.sublist_append_left νr νl).cons_cons _ |>.cons_cons _)), hL, hrel, by omega, hcut, hown, hchk⟩
  · intro h18
    refine ws_l rfl rfl rfl rfl (rd_move rfl) ?_
    refine ws_xskip rfl rfl rfl rfl ?_
    refine ws_xskip rfl rfl rfl rfl ?_
    refine ws_l rfl rfl rfl rfl (rd_pick_f rfl rfl) ?_
    refine ws_nil ?_
    refine qe_then ?_
    refine wc_false rfl ?_
    refine wc_exit ?_
    refine qe_then_exit ?_
    refine qe_then_exit ?_
    refine qe_block_exit ?_
    refine qe_then ?_
    refine wc_keep [(2, _), (3, _), (4, _)] rfl ?_
    refine wc_seq ?_
    refine wc_plain [(0, .x true), (1, .x true), (2, .x true), (3, .x true), (4, .x true), (5, .x true), (6, .x true)] (by kernel_rfl) ?_
    refine ws_l rfl rfl rfl rfl (rd_move rfl) ?_
    refine ws_l rfl rfl rfl rfl (rd_move rfl) ?_
    refine ws_l rfl rfl rfl rfl (rd_move rfl) ?_
    refine ws_l rfl rfl rfl rfl (rd_assign rfl) ?_
    refine ws_l rfl rfl rfl rfl (rd_assign rfl) ?_
    refine ws_l rfl rfl rfl rfl (rd_assign rfl) ?_
    refine ws_l rfl rfl rfl rfl (rd_assign rfl) ?_
    refine ws_nil ?_
    refine qe_then ?_
    refine wc_ret ?_
    refine qe_body _ (.inl rfl) (res4 rfl (RV.tmp rfl) (RV.tmp rfl) (RV.tmp rfl) (RV.tmp rfl)) ?_
    exact ret_end fun w hp hn ho => ⟨p, m, cut, es, clock, L, rows, vr, νr, rfl, hp0, hm0, hp.mono (by intro q hq; simp at hq ⊢; rcases hq with h | h | h <;> simp [h]), hn.sublist (List.Sublist.map _ ((List.sublist_append_left νr νl).cons_cons _ |>.cons_cons _)), hL, hrel, by omega, hcut, hown, hchk⟩

end Go.Proofs.Ytegjmmjjchpeoaa
