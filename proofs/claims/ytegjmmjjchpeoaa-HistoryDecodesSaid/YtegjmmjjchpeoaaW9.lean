/- Walk: HistoryOnce. No conditions. -/
import Derived.Test.YtegjmmjjchpeoaaW8
namespace Go.Proofs.Ytegjmmjjchpeoaa
open Go Go.RowKit Go.Sx
set_option linter.unusedSimpArgs false
set_option linter.unusedVariables false

set_option maxRecDepth 100000 in
set_option maxHeartbeats 1000000 in
theorem once_ret (vl : Value) (νl : Heap) (ops : List POp) (hsrc : Src νl vl 37 ops.length (ops.flatMap opL)) (v2 : Value) (ops2 : List POp) (hsrc2 : Src νl v2 37 ops2.length (ops2.flatMap opL)) (x : Ent) (now a4 : Int) (w : World) (hνl : HpOK νl w) (hndl : (νl.map Prod.fst).Nodup) : Ret Try.prog 5 [vl, entK x, v2, I now, I a4] w [] (fun v _ => v = .bool true) := by
  refine enter (n := 101) (args := [vl, entK x, v2, I now, I a4]) [] νl Try.func5 rfl rfl rfl hνl hndl ?_
  refine wc_seq ?_
  refine wc_plain [(0, .x true), (1, .x true)] (by kernel_rfl) ?_
  refine ws_box rfl rfl rfl rfl ?_
  intro b6 hb6
  refine ws_l rfl rfl rfl rfl (rd_assign rfl) ?_
  refine ws_nil ?_
  refine qe_then ?_
  refine wc_seq ?_
  refine wc_seq ?_
  refine wc_plain [(0, .x true), (1, .x true)] (by kernel_rfl) ?_
  refine ws_callp rfl rfl rfl rfl rfl (En.go) (fun w hp hn ho => known_ret w) ?_
  refine ws_l rfl rfl rfl rfl (rd_not rfl) ?_
  refine ws_nil ?_
  refine qe_then ?_
  refine wc_false rfl ?_
  refine wc_skip ?_
  refine qe_then ?_
  refine wc_seq ?_
  refine wc_plain [(0, .x true), (1, .x true), (2, .x true), (3, .x true), (4, .x true), (5, .x true), (6, .x true), (7, .x true), (8, .x true), (9, .x true), (10, .x true)] (by kernel_rfl) ?_
  refine ws_l rfl rfl rfl rfl (rd_move rfl) ?_
  refine ws_call rfl rfl rfl rfl rfl (En.go) (fun w hp hn ho => play_ret vl νl ops hsrc w (hp.mono (by intro q hq; simp [hq])) hndl) (fun _ h => by cases h) (fun hh q h => by first | (cases h; done) | exact hh q h) ?_
  rintro v20 wa wb hpo hon hon2 hp1 ⟨p, m, cut, es, clock, L, rows, vr, νr, rfl, hp0, hm0, hh, hhn, hL, hrel, hrl, hcut, hown, hchk⟩
  refine ⟨histC p m cut es clock νr, hh, hhn, fun b hb => .inl (by simp at hb; rcases hb with rfl | rfl | hb; exact hp0; exact hm0; exact hown.far b (by simpa using hb)), ?_⟩
  replace hp0 := Nat.le_trans hon.size hp0
  replace hm0 := Nat.le_trans hon.size hm0
  replace hown := hown.mono hon.size
  have hne : p ≠ m := by simp at hhn; omega
  simp only [histC, List.cons_append]
  refine ws_l rfl rfl rfl rfl (rd_move rfl) ?_
  refine ws_l rfl rfl rfl rfl (rd_extract rfl) ?_
  refine ws_l rfl rfl rfl rfl (rd_extract rfl) ?_
  refine ws_l rfl rfl rfl rfl (rd_extract rfl) ?_
  refine ws_l rfl rfl rfl rfl (rd_extract rfl) ?_
  refine ws_l rfl rfl rfl rfl (rd_assign rfl) ?_
  refine ws_l rfl rfl rfl rfl (rd_assign rfl) ?_
  refine ws_l rfl rfl rfl rfl (rd_assign rfl) ?_
  refine ws_l rfl rfl rfl rfl (rd_assign rfl) ?_
  refine ws_nil ?_
  refine qe_then ?_
  refine wc_keep [(2, _), (3, _), (4, _), (6, _), (10, _), (11, _), (14, _)] rfl ?_
  refine wc_seq ?_
  refine wc_seq ?_
  refine wc_plain [(0, .x true), (1, .x true), (2, .x true), (3, .x true), (4, .x true), (5, .x true), (6, .x true), (7, .x true), (8, .x true), (9, .x true), (10, .x true), (11, .x true), (12, .x true), (13, .x true), (14, .x true), (15, .x true), (16, .x true), (17, .x true), (18, .x true), (19, .x true), (20, .x true)] (by kernel_rfl) ?_
  refine ws_l rfl rfl rfl rfl (rd_move rfl) ?_
  refine ws_l rfl rfl rfl rfl (rd_not rfl) ?_
  refine ws_l rfl rfl rfl rfl (rd_move rfl) ?_
  refine ws_l rfl rfl rfl rfl (rd_move rfl) ?_
  refine ws_l rfl rfl rfl rfl (rd_fieldAddr rfl) ?_
  refine ws_l rfl rfl rfl rfl (rd_load rfl) ?_
  refine ws_l rfl rfl rfl rfl (rd_fieldAddr rfl) ?_
  refine ws_l rfl rfl rfl rfl (rd_load rfl) ?_
  refine ws_l rfl rfl rfl rfl (rd_move rfl) ?_
  refine ws_l rfl rfl rfl rfl (rd_fieldAddr rfl) ?_
  refine ws_l rfl rfl rfl rfl (rd_load rfl) ?_
  refine ws_callp rfl rfl rfl rfl rfl (En.go) (fun w hp hn ho => judge_ret p m cut es clock L hL hne hcut x.id x.date now x.perm w (hp.mono (by simp))) ?_
  refine ws_lcmp rfl rfl rfl (rfl) (rfl) (rfl) ?_ ?_
  · intro h37
    refine ws_l rfl rfl rfl rfl (rd_pick_f rfl rfl) ?_
    refine ws_l rfl rfl rfl rfl (rd_move rfl) ?_
    refine ws_xskip rfl rfl rfl rfl ?_
    refine ws_xskip rfl rfl rfl rfl ?_
    refine ws_xskip rfl rfl rfl rfl ?_
    refine ws_xskip rfl rfl rfl rfl ?_
    refine ws_xskip rfl rfl rfl rfl ?_
    refine ws_l rfl rfl rfl rfl (rd_pick_t rfl rfl) ?_
    refine ws_nil ?_
    refine qe_then ?_
    refine wc_keep [(2, _), (4, _), (6, _), (10, _), (11, _), (14, _), (45, _)] rfl ?_
    refine wc_true rfl ?_
    refine wc_seq ?_
    refine wc_plain [(0, .x true), (1, .x true)] (by kernel_rfl) ?_
    refine ws_l rfl rfl rfl rfl (rd_move rfl) ?_
    refine ws_l rfl rfl rfl rfl (rd_assign rfl) ?_
    refine ws_nil ?_
    refine qe_then ?_
    refine wc_ret ?_
    refine qe_then_ret ?_
    refine qe_body _ (.inl rfl) (res1 rfl (RV.tmp rfl)) ?_
    exact ret_end fun w hp hn ho => rfl
  · intro h37
    refine ws_l rfl rfl rfl rfl (rd_pick_f rfl rfl) ?_
    refine ws_l rfl rfl rfl rfl (rd_move rfl) ?_
    refine ws_l rfl rfl rfl rfl (rd_move rfl) ?_
    refine ws_l rfl rfl rfl rfl (rd_load rfl) ?_
    refine ws_callp rfl rfl rfl rfl rfl (En.go) (fun w hp hn ho => to_ret _ w) ?_
    refine ws_call rfl rfl rfl rfl rfl (En.go) (fun w hp hn ho => add_ret p m cut es clock L hL hne (by rw [hrel.len]; omega) x w (hp.mono (by simp))) (fun b hb => .inl (by simp at hb; subst hb; exact hm0)) (fun hh q h => by first | (cases h; done) | exact hh q h) ?_
    rintro v43 wa wb hpo hon hon2 hp1 ⟨hva, es2, clock2, hm2, hL2⟩
    subst hva
    refine ⟨[(m, .map es2 clock2)], fun b o hm => by simp at hm; obtain ⟨rfl, rfl⟩ := hm; exact hm2, by simp, by simp, ?_⟩
    refine ws_lcmp rfl rfl rfl (rfl) (rfl) (rfl) ?_ ?_
    · intro h44
      refine ws_l rfl rfl rfl rfl (rd_pick_f rfl rfl) ?_
      refine ws_nil ?_
      refine qe_then ?_
      refine wc_keep [(2, _), (4, _), (6, _), (10, _), (11, _), (14, _), (45, _)] rfl ?_
      refine wc_true rfl ?_
      refine wc_seq ?_
      refine wc_plain [(0, .x true), (1, .x true)] (by kernel_rfl) ?_
      refine ws_l rfl rfl rfl rfl (rd_move rfl) ?_
      refine ws_l rfl rfl rfl rfl (rd_assign rfl) ?_
      refine ws_nil ?_
      refine qe_then ?_
      refine wc_ret ?_
      refine qe_then_ret ?_
      refine qe_body _ (.inl rfl) (res1 rfl (RV.tmp rfl)) ?_
      exact ret_end fun w hp hn ho => rfl
    · intro h44
      refine ws_l rfl rfl rfl rfl (rd_pick_f rfl rfl) ?_
      refine ws_nil ?_
      refine qe_then ?_
      refine wc_keep [(2, _), (4, _), (6, _), (10, _), (11, _), (14, _), (45, _)] rfl ?_
      refine wc_false rfl ?_
      refine wc_skip ?_
      refine qe_then ?_
      refine wc_seq ?_
      refine wc_seq ?_
      refine wc_plain [(0, .x true)] (by kernel_rfl) ?_
      refine ws_l rfl rfl rfl rfl (rd_assign rfl) ?_
      refine ws_nil ?_
      refine qe_then ?_
      refine wc_block ?_
      refine wc_loop (fun mz ac w1 => ∃ (j : Nat) (cut : Int) (es : Array MapEntry) (clock : Nat) (L : HMap) (rows : List Ent), mz = 40 - j ∧ (j ≤ 40) ∧ (MapIs idK entK es clock L) ∧ (Rel L rows) ∧ (rows.length ≤ 41) ∧ (0 ≤ cut ∧ cut ≤ 105190559) ∧ (Held x rows cut) ∧ St 101 w [] [(2, v2), (4, I a4), (6, ptr b6), (11, ptr p), (15, I j)] ((p, .cells #[.map (some m), I cut] 86 (0, 0)) :: (m, .map es clock) :: (b6, .cells (entC x) 24 (0, 0)) :: νl) ac w1) _ (fun ac w1 hs => ⟨0, cut, es2, clock2, addL L x, insF x rows, rfl, (by omega), (hL2), (hrel.add x (by simpa using h44)), (by rw [insF_len]; omega), (hcut), (Held.add), st_sub hs _ rfl⟩) ?_
      rintro _ ac1 wl1 ⟨j, cut, es, clock, L, rows, rfl, hj, hL, hrel, hrl, hcut, held, hs1⟩
      refine wc_at hs1 ?_
      refine wc_seq ?_
      refine wc_seq ?_
      refine wc_plain [(0, .x true), (1, .x true), (2, .x true), (3, .x true), (4, .x true), (5, .x true), (6, .x true), (7, .x true)] (by kernel_rfl) ?_
      refine ws_l rfl rfl rfl rfl (rd_move rfl) ?_
      refine ws_l rfl rfl rfl rfl (rd_move rfl) ?_
      refine ws_l rfl rfl rfl rfl (rd_lenS hsrc2 rfl Try.underlying34) ?_
      refine ws_lcmp rfl rfl rfl (rfl) (rfl) (rfl) ?_ ?_
      · intro h50
        refine ws_l rfl rfl rfl rfl (rd_move rfl) ?_
        refine ws_l rfl rfl rfl rfl (rd_move rfl) ?_
        refine ws_lcmp rfl rfl rfl (rfl) (rfl) (rfl) ?_ ?_
        · intro h53
          refine ws_l rfl rfl rfl rfl (rd_pick_t rfl rfl) ?_
          refine ws_nil ?_
          refine qe_then ?_
          refine wc_true rfl ?_
          refine wc_skip ?_
          refine qe_then ?_
          refine wc_seq ?_
          refine wc_block ?_
          refine wc_seq ?_
          refine wc_seq ?_
          refine wc_plain [(0, .x true), (1, .x true), (2, .x true), (3, .x true), (4, .x true), (5, .x true), (6, .x true)] (by kernel_rfl) ?_
          refine ws_l rfl rfl rfl rfl (rd_move rfl) ?_
          refine ws_l rfl rfl rfl rfl (rd_move rfl) ?_
          obtain ⟨bl, ol, cl, cs, El, frl, rfl, hml, hcs⟩ := Src.opened hsrc2 (by omega)
          have hmi : HM bl (.cells cs El frl) νl := ⟨hml⟩
          obtain ⟨o, ho⟩ := at_ex (l := ops2) (j := j) (by omega)
          obtain ⟨ato, ato2⟩ := op_at hcs ho
          refine ws_l rfl rfl rfl rfl (rd_index (ol + j * 37) rfl rfl Try.underlying34 Try.sizeOf44 ⟨by omega, by omega⟩ (by simp)) ?_
          refine ws_l rfl rfl rfl rfl (rd_fieldAddr rfl) ?_
          refine ws_l rfl rfl rfl rfl (rd_load rfl) ?_
          refine ws_l rfl rfl rfl rfl (rd_rem _ rfl rfl (by decide) rfl) ?_
          refine ws_lcmp rfl rfl rfl (rfl) (rfl) (rfl) ?_ ?_
          · intro h63
            refine ws_nil ?_
            refine qe_then ?_
            refine wc_true rfl ?_
            refine wc_plain [(0, .x true), (1, .x true), (2, .x true), (3, .x true), (4, .x true), (5, .x true), (6, .x true), (7, .x true)] (by kernel_rfl) ?_
            refine ws_l rfl rfl rfl rfl (rd_move rfl) ?_
            refine ws_l rfl rfl rfl rfl (rd_move rfl) ?_
            refine ws_l rfl rfl rfl rfl (rd_move rfl) ?_
            refine ws_l rfl rfl rfl rfl (rd_index (ol + j * 37) rfl rfl Try.underlying34 Try.sizeOf44 ⟨by omega, by omega⟩ (by simp)) ?_
            refine ws_l rfl rfl rfl rfl (rd_fieldAddr rfl) ?_
            refine ws_l rfl rfl rfl rfl (rd_fieldAddr rfl) ?_
            refine ws_l rfl rfl rfl rfl (rd_load rfl) ?_
            refine ws_call rfl rfl rfl rfl rfl (En.go) (fun w hp hn ho => setgone_ret p m cut es clock L hL hne o.x.id w (hp.mono (by intro q hq; simp at hq ⊢; rcases hq with h | h <;> simp [h]))) (fun b hb => .inl (by simp at hb; subst hb; exact hm0)) (fun hh q h => by first | (cases h; done) | exact hh q h) ?_
            rintro v71 wa wb hpo hon hon2 hp1 ⟨-, es1, clock1, hm1, hL1⟩
            obtain ⟨rows1, hrel1, hlen1, hkp1⟩ := hrel.goneAny (o.x.id)
            have held1 := held.keeps hkp1
            refine ⟨[(m, .map es1 clock1)], fun b o hm => by simp at hm; obtain ⟨rfl, rfl⟩ := hm; exact hm1, by simp, by simp, ?_⟩
            refine ws_nil ?_
            refine qe_then ?_
            refine wc_seq ?_
            refine wc_plain [(0, .x true), (1, .x true), (2, .x true), (3, .x true), (4, .x true), (5, .x true), (6, .x true)] (by kernel_rfl) ?_
            refine ws_l rfl rfl rfl rfl (rd_move rfl) ?_
            refine ws_l rfl rfl rfl rfl (rd_move rfl) ?_
            refine ws_l rfl rfl rfl rfl (rd_index (ol + j * 37) rfl rfl Try.underlying34 Try.sizeOf44 ⟨by omega, by omega⟩ (by simp)) ?_
            refine ws_l rfl rfl rfl rfl (rd_fieldAddr rfl) ?_
            refine ws_l rfl rfl rfl rfl (rd_load rfl) ?_
            refine ws_l rfl rfl rfl rfl (rd_rem _ rfl rfl (by decide) rfl) ?_
            refine ws_lcmp rfl rfl rfl (rfl) (rfl) (rfl) ?_ ?_
            · intro h78
              refine ws_nil ?_
              refine qe_then ?_
              refine wc_true rfl ?_
              refine wc_seq ?_
              refine wc_plain [(0, .x true), (1, .x true), (2, .x true), (3, .x true)] (by kernel_rfl) ?_
              refine ws_l rfl rfl rfl rfl (rd_move rfl) ?_
              refine ws_l rfl rfl rfl rfl (rd_fieldAddr rfl) ?_
              refine ws_l rfl rfl rfl rfl (rd_load rfl) ?_
              refine ws_call rfl rfl rfl rfl rfl (En.go) (fun w hp hn ho => setgone_ret p m cut es1 clock1 (goneL L o.x.id) hL1 hne x.id w (hp.mono (by intro q hq; simp at hq ⊢; rcases hq with h | h <;> simp [h]))) (fun b hb => .inl (by simp at hb; subst hb; exact hm0)) (fun hh q h => by first | (cases h; done) | exact hh q h) ?_
              rintro v82 wa wb hpo hon hon2 hp1 ⟨-, es2, clock2, hm2, hL2⟩
              obtain ⟨rows2, hrel2, hlen2, hkp2⟩ := hrel1.goneAny (x.id)
              have held2 := held1.keeps hkp2
              refine ⟨[(m, .map es2 clock2)], fun b o hm => by simp at hm; obtain ⟨rfl, rfl⟩ := hm; exact hm2, by simp, by simp, ?_⟩
              refine ws_nil ?_
              refine qe_then ?_
              refine wc_plain [(0, .x true), (1, .x true), (2, .x true), (3, .x true), (4, .x true), (5, .x true), (6, .x true), (7, .x true)] (by kernel_rfl) ?_
              refine ws_l rfl rfl rfl rfl (rd_move rfl) ?_
              refine ws_l rfl rfl rfl rfl (rd_move rfl) ?_
              refine ws_l rfl rfl rfl rfl (rd_move rfl) ?_
              refine ws_l rfl rfl rfl rfl (rd_index (ol + j * 37) rfl rfl Try.underlying34 Try.sizeOf44 ⟨by omega, by omega⟩ (by simp)) ?_
              refine ws_l rfl rfl rfl rfl (rd_fieldAddr rfl) ?_
              refine ws_l rfl rfl rfl rfl (rd_fieldAddr rfl) ?_
              refine ws_l rfl rfl rfl rfl (rd_load rfl) ?_
              refine ws_call rfl rfl rfl rfl rfl (En.go) (fun w hp hn ho => forget_ret p m cut es2 clock2 (goneL (goneL L o.x.id) x.id) hL2 hne (by rw [hrel2.len]; omega) o.x.arr w (hp.mono (by intro q hq; simp at hq ⊢; rcases hq with h | h <;> simp [h]))) (fun b hb => .inl (by simp at hb; rcases hb with rfl | rfl; exact hp0; exact hm0)) (fun hh q h => by first | (cases h; done) | exact hh q h) ?_
              rintro v90 wa wb hpo hon hon2 hp1 ⟨u27, ν27, gone, esf, L2, cut2, rfl, hown27, hν27, hh2, hLf, hLe, hc2, hgp, hgs⟩
              have hgone := hrel2.sorted _ hgp hgs
              subst hgone
              have hpm : p < wa.heap.size ∧ m < wa.heap.size := ⟨hpo.lt (b := p) (o := .cells #[.map (some m), I cut] 86 (0, 0)) (by simp), hpo.lt (b := m) (o := .map es2 clock2) (by simp)⟩
              refine ⟨ν27 ++ hist p m cut2 esf clock2, hν27.append hh2, nodup_app hown27.nd (by simp [hne]) hown27.far (by simp; exact hpm), fun b hb => by rw [List.map_append, List.mem_append] at hb; exact hb.elim (fun h => .inl (hown27.far b h)) (fun h => .inr (by simpa using h)), ?_⟩
              rw [List.append_assoc]; simp only [hist, List.cons_append, List.nil_append]
              refine ws_nil ?_
              refine qe_block ?_
              refine qe_then ?_
              refine wc_plain [(0, .x true), (1, .x true), (2, .x true)] (by kernel_rfl) ?_
              refine ws_l rfl rfl rfl rfl (rd_move rfl) ?_
              refine ws_l rfl rfl rfl rfl (rd_arith (((j + 1 : Nat) : Int)) rfl rfl rfl (by rw [wrap_i64 _ (by omega) (by omega)]; omega)) ?_
              refine ws_l rfl rfl rfl rfl (rd_assign rfl) ?_
              refine ws_nil ?_
              exact qe_loop fun ac2 w2 hs2 => ⟨_, by omega, j + 1, cut2, esf, clock2, _, rows2.filter (fun y => !forgetB y o.x.arr), rfl, (by omega), (hLf), (by rw [hLe]; exact hrel2.forget _), (Nat.le_trans (List.length_filter_le _ _) (by omega)), (by rw [hc2]; exact cut_bounds hcut), (by rw [hc2]; exact held2.forget _), st_sub hs2 _ rfl⟩
            · intro h78
              refine ws_nil ?_
              refine qe_then ?_
              refine wc_false rfl ?_
              refine wc_skip ?_
              refine qe_block ?_
              refine qe_then ?_
              refine wc_plain [(0, .x true), (1, .x true), (2, .x true)] (by kernel_rfl) ?_
              refine ws_l rfl rfl rfl rfl (rd_move rfl) ?_
              refine ws_l rfl rfl rfl rfl (rd_arith (((j + 1 : Nat) : Int)) rfl rfl rfl (by rw [wrap_i64 _ (by omega) (by omega)]; omega)) ?_
              refine ws_l rfl rfl rfl rfl (rd_assign rfl) ?_
              refine ws_nil ?_
              exact qe_loop fun ac2 w2 hs2 => ⟨_, by omega, j + 1, cut, es1, clock1, (goneL L o.x.id), rows1, rfl, (by omega), (hL1), (hrel1), (by omega), (hcut), (held1), st_sub hs2 _ rfl⟩
          · intro h63
            refine ws_nil ?_
            refine qe_then ?_
            refine wc_false rfl ?_
            refine wc_skip ?_
            refine qe_then ?_
            refine wc_seq ?_
            refine wc_plain [(0, .x true), (1, .x true), (2, .x true), (3, .x true), (4, .x true), (5, .x true), (6, .x true)] (by kernel_rfl) ?_
            refine ws_l rfl rfl rfl rfl (rd_move rfl) ?_
            refine ws_l rfl rfl rfl rfl (rd_move rfl) ?_
            refine ws_l rfl rfl rfl rfl (rd_index (ol + j * 37) rfl rfl Try.underlying34 Try.sizeOf44 ⟨by omega, by omega⟩ (by simp)) ?_
            refine ws_l rfl rfl rfl rfl (rd_fieldAddr rfl) ?_
            refine ws_l rfl rfl rfl rfl (rd_load rfl) ?_
            refine ws_l rfl rfl rfl rfl (rd_rem _ rfl rfl (by decide) rfl) ?_
            refine ws_lcmp rfl rfl rfl (rfl) (rfl) (rfl) ?_ ?_
            · intro h78
              refine ws_nil ?_
              refine qe_then ?_
              refine wc_true rfl ?_
              refine wc_seq ?_
              refine wc_plain [(0, .x true), (1, .x true), (2, .x true), (3, .x true)] (by kernel_rfl) ?_
              refine ws_l rfl rfl rfl rfl (rd_move rfl) ?_
              refine ws_l rfl rfl rfl rfl (rd_fieldAddr rfl) ?_
              refine ws_l rfl rfl rfl rfl (rd_load rfl) ?_
              refine ws_call rfl rfl rfl rfl rfl (En.go) (fun w hp hn ho => setgone_ret p m cut es clock L hL hne x.id w (hp.mono (by intro q hq; simp at hq ⊢; rcases hq with h | h <;> simp [h]))) (fun b hb => .inl (by simp at hb; subst hb; exact hm0)) (fun hh q h => by first | (cases h; done) | exact hh q h) ?_
              rintro v82 wa wb hpo hon hon2 hp1 ⟨-, es1, clock1, hm1, hL1⟩
              obtain ⟨rows1, hrel1, hlen1, hkp1⟩ := hrel.goneAny (x.id)
              have held1 := held.keeps hkp1
              refine ⟨[(m, .map es1 clock1)], fun b o hm => by simp at hm; obtain ⟨rfl, rfl⟩ := hm; exact hm1, by simp, by simp, ?_⟩
              refine ws_nil ?_
              refine qe_then ?_
              refine wc_plain [(0, .x true), (1, .x true), (2, .x true), (3, .x true), (4, .x true), (5, .x true), (6, .x true), (7, .x true)] (by kernel_rfl) ?_
              refine ws_l rfl rfl rfl rfl (rd_move rfl) ?_
              refine ws_l rfl rfl rfl rfl (rd_move rfl) ?_
              refine ws_l rfl rfl rfl rfl (rd_move rfl) ?_
              refine ws_l rfl rfl rfl rfl (rd_index (ol + j * 37) rfl rfl Try.underlying34 Try.sizeOf44 ⟨by omega, by omega⟩ (by simp)) ?_
              refine ws_l rfl rfl rfl rfl (rd_fieldAddr rfl) ?_
              refine ws_l rfl rfl rfl rfl (rd_fieldAddr rfl) ?_
              refine ws_l rfl rfl rfl rfl (rd_load rfl) ?_
              refine ws_call rfl rfl rfl rfl rfl (En.go) (fun w hp hn ho => forget_ret p m cut es1 clock1 (goneL L x.id) hL1 hne (by rw [hrel1.len]; omega) o.x.arr w (hp.mono (by intro q hq; simp at hq ⊢; rcases hq with h | h <;> simp [h]))) (fun b hb => .inl (by simp at hb; rcases hb with rfl | rfl; exact hp0; exact hm0)) (fun hh q h => by first | (cases h; done) | exact hh q h) ?_
              rintro v90 wa wb hpo hon hon2 hp1 ⟨u27, ν27, gone, esf, L2, cut2, rfl, hown27, hν27, hh2, hLf, hLe, hc2, hgp, hgs⟩
              have hgone := hrel1.sorted _ hgp hgs
              subst hgone
              have hpm : p < wa.heap.size ∧ m < wa.heap.size := ⟨hpo.lt (b := p) (o := .cells #[.map (some m), I cut] 86 (0, 0)) (by simp), hpo.lt (b := m) (o := .map es1 clock1) (by simp)⟩
              refine ⟨ν27 ++ hist p m cut2 esf clock1, hν27.append hh2, nodup_app hown27.nd (by simp [hne]) hown27.far (by simp; exact hpm), fun b hb => by rw [List.map_append, List.mem_append] at hb; exact hb.elim (fun h => .inl (hown27.far b h)) (fun h => .inr (by simpa using h)), ?_⟩
              rw [List.append_assoc]; simp only [hist, List.cons_append, List.nil_append]
              refine ws_nil ?_
              refine qe_block ?_
              refine qe_then ?_
              refine wc_plain [(0, .x true), (1, .x true), (2, .x true)] (by kernel_rfl) ?_
              refine ws_l rfl rfl rfl rfl (rd_move rfl) ?_
              refine ws_l rfl rfl rfl rfl (rd_arith (((j + 1 : Nat) : Int)) rfl rfl rfl (by rw [wrap_i64 _ (by omega) (by omega)]; omega)) ?_
              refine ws_l rfl rfl rfl rfl (rd_assign rfl) ?_
              refine ws_nil ?_
              exact qe_loop fun ac2 w2 hs2 => ⟨_, by omega, j + 1, cut2, esf, clock1, _, rows1.filter (fun y => !forgetB y o.x.arr), rfl, (by omega), (hLf), (by rw [hLe]; exact hrel1.forget _), (Nat.le_trans (List.length_filter_le _ _) (by omega)), (by rw [hc2]; exact cut_bounds hcut), (by rw [hc2]; exact held1.forget _), st_sub hs2 _ rfl⟩
            · intro h78
              refine ws_nil ?_
              refine qe_then ?_
              refine wc_false rfl ?_
              refine wc_skip ?_
              refine qe_block ?_
              refine qe_then ?_
              refine wc_plain [(0, .x true), (1, .x true), (2, .x true)] (by kernel_rfl) ?_
              refine ws_l rfl rfl rfl rfl (rd_move rfl) ?_
              refine ws_l rfl rfl rfl rfl (rd_arith (((j + 1 : Nat) : Int)) rfl rfl rfl (by rw [wrap_i64 _ (by omega) (by omega)]; omega)) ?_
              refine ws_l rfl rfl rfl rfl (rd_assign rfl) ?_
              refine ws_nil ?_
              exact qe_loop fun ac2 w2 hs2 => ⟨_, by omega, j + 1, cut, es, clock, L, rows, rfl, (by omega), (hL), (hrel), (by omega), (hcut), (held), st_sub hs2 _ rfl⟩
        · intro h53
          refine ws_l rfl rfl rfl rfl (rd_pick_t rfl rfl) ?_
          refine ws_nil ?_
          refine qe_then ?_
          refine wc_false rfl ?_
          refine wc_exit ?_
          refine qe_then_exit ?_
          refine qe_then_exit ?_
          refine qe_block_exit ?_
          refine qe_then ?_
          refine wc_keep [(4, _), (6, _), (11, _)] rfl ?_
          refine wc_seq ?_
          refine wc_plain [(0, .x true), (1, .x true), (2, .x true), (3, .x true), (4, .x true), (5, .x true), (6, .x true), (7, .x true), (8, .x true), (9, .x true), (10, .x true)] (by kernel_rfl) ?_
          refine ws_l rfl rfl rfl rfl (rd_move rfl) ?_
          refine ws_l rfl rfl rfl rfl (rd_fieldAddr rfl) ?_
          refine ws_l rfl rfl rfl rfl (rd_load rfl) ?_
          refine ws_l rfl rfl rfl rfl (rd_fieldAddr rfl) ?_
          refine ws_l rfl rfl rfl rfl (rd_load rfl) ?_
          refine ws_l rfl rfl rfl rfl (rd_move rfl) ?_
          refine ws_l rfl rfl rfl rfl (rd_fieldAddr rfl) ?_
          refine ws_l rfl rfl rfl rfl (rd_load rfl) ?_
          refine ws_callp rfl rfl rfl rfl rfl (En.go) (fun w hp hn ho => judge_ret p m cut es clock L hL hne hcut x.id x.date a4 x.perm w (hp.mono (by simp))) ?_
          refine ws_l rfl rfl rfl rfl (rd_cmp_t rfl rfl rfl (by simp only [cmpP]; exact held.judge hrel a4)) ?_
          refine ws_l rfl rfl rfl rfl (rd_assign rfl) ?_
          refine ws_nil ?_
          refine qe_then ?_
          refine wc_keep [(10, _)] rfl ?_
          refine wc_ret ?_
          refine qe_body _ (.inl rfl) (res1 rfl (RV.tmp rfl)) ?_
          exact ret_end fun w hp hn ho => rfl
      · intro h50
        refine ws_l rfl rfl rfl rfl (rd_move rfl) ?_
        refine ws_xskip rfl rfl rfl rfl ?_
        refine ws_xskip rfl rfl rfl rfl ?_
        refine ws_l rfl rfl rfl rfl (rd_pick_f rfl rfl) ?_
        refine ws_nil ?_
        refine qe_then ?_
        refine wc_false rfl ?_
        refine wc_exit ?_
        refine qe_then_exit ?_
        refine qe_then_exit ?_
        refine qe_block_exit ?_
        refine qe_then ?_
        refine wc_keep [(4, _), (6, _), (11, _)] rfl ?_
        refine wc_seq ?_
        refine wc_plain [(0, .x true), (1, .x true), (2, .x true), (3, .x true), (4, .x true), (5, .x true), (6, .x true), (7, .x true), (8, .x true), (9, .x true), (10, .x true)] (by kernel_rfl) ?_
        refine ws_l rfl rfl rfl rfl (rd_move rfl) ?_
        refine ws_l rfl rfl rfl rfl (rd_fieldAddr rfl) ?_
        refine ws_l rfl rfl rfl rfl (rd_load rfl) ?_
        refine ws_l rfl rfl rfl rfl (rd_fieldAddr rfl) ?_
        refine ws_l rfl rfl rfl rfl (rd_load rfl) ?_
        refine ws_l rfl rfl rfl rfl (rd_move rfl) ?_
        refine ws_l rfl rfl rfl rfl (rd_fieldAddr rfl) ?_
        refine ws_l rfl rfl rfl rfl (rd_load rfl) ?_
        refine ws_callp rfl rfl rfl rfl rfl (En.go) (fun w hp hn ho => judge_ret p m cut es clock L hL hne hcut x.id x.date a4 x.perm w (hp.mono (by simp))) ?_
        refine ws_l rfl rfl rfl rfl (rd_cmp_t rfl rfl rfl (by simp only [cmpP]; exact held.judge hrel a4)) ?_
        refine ws_l rfl rfl rfl rfl (rd_assign rfl) ?_
        refine ws_nil ?_
        refine qe_then ?_
        refine wc_keep [(10, _)] rfl ?_
        refine wc_ret ?_
        refine qe_body _ (.inl rfl) (res1 rfl (RV.tmp rfl)) ?_
        exact ret_end fun w hp hn ho => rfl

end Go.Proofs.Ytegjmmjjchpeoaa
