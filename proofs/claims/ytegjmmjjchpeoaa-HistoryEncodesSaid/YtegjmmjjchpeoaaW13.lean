/- Walk: HistoryStops. No conditions. -/
import Derived.Test.YtegjmmjjchpeoaaW12
import Derived.Test.YtegjmmjjchpeoaaZx
namespace Go.Proofs.Ytegjmmjjchpeoaa
open Go Go.RowKit Go.Sx
set_option linter.unusedSimpArgs false
set_option linter.unusedVariables false

def stopN (a : Int) : Nat := 1 + a.toNat % 20
theorem stop_rem (a : Int) (h : 0 ≤ a ∧ a ≤ 255) : a.tmod 20 = ((a.toNat % 20 : Nat) : Int) := by
  obtain ⟨n, rfl⟩ := Int.eq_ofNat_of_zero_le h.1
  simp [Int.tmod]
theorem stop_min (n k : Nat) : (if ((n : Nat) : Int) < ((k : Nat) : Int) then ((n : Nat) : Int) else ((k : Nat) : Int)) = ((min k n : Nat) : Int) := by
  split <;> omega
set_option maxRecDepth 100000 in
set_option maxHeartbeats 4000000 in
theorem hstops_ret (vl : Value) (νl : Heap) (ops : List POp) (hsrc : Src νl vl 37 ops.length (ops.flatMap opL)) (a1 : Int) (h1 : 0 ≤ a1 ∧ a1 ≤ 255) (x0 : Ent) (w : World) (hνl : HpOK νl w) (hndl : (νl.map Prod.fst).Nodup) : Ret Try.prog 6 [vl, .int .u8 a1, entK x0] w [] (fun v _ => v = .bool true) := by
  refine enterM (n := 67) (args := [vl, .int .u8 a1, entK x0]) [] νl Try.func6 rfl rfl rfl hνl hndl ?_
  refine wc_seq ?_
  refine wc_plain [(0, .x true), (1, .x true), (2, .x true)] (by kernel_rfl) ?_
  refine ws_box rfl rfl rfl rfl ?_
  intro b4 hb4
  refine ws_box rfl rfl rfl rfl ?_
  intro b5 hb5
  refine ws_alloc rfl rfl rfl ?_
  intro b6 hb6
  refine ws_nil ?_
  refine qe_then ?_
  refine wc_seq ?_
  refine wc_seq ?_
  refine wc_plain [(0, .x true), (1, .x true)] (by kernel_rfl) ?_
  refine ws_callp rfl rfl rfl rfl rfl (En.go) (fun w hp hn ho => known_ret w) ?_
  refine ws_l rfl rfl rfl rfl (rd_not rfl) ?_
  refine ws_nil ?_
  refine qe_then ?_
  refine wc_false rfl ?_
  refine wc_skip ?_
  refine qe_then ?_
  refine wc_seq ?_
  refine wc_plain [(0, .x true), (1, .x true), (2, .x true), (3, .x true), (4, .x true), (5, .x true), (6, .x true), (7, .x true), (8, .x true), (9, .x true), (10, .x true), (11, .x true), (12, .x true)] (by kernel_rfl) ?_
  refine ws_l rfl rfl rfl rfl (rd_move rfl) ?_
  refine ws_call rfl rfl rfl rfl rfl (En.go) (fun w hp hn ho => play_ret vl νl ops hsrc w (hp.mono (by intro q hq; simp [hq])) hndl) (fun _ h => by cases h) (fun hh q h => by first | (cases h; done) | exact hh q h) ?_
  rintro v18 wa wb hpo hon hon2 hp1 ⟨p, m, cut, es, clock, L, rows, vr, νr, rfl, hp0, hm0, hh, hhn, hL, hrel, hrl, hcut, hown, hchk⟩
  refine ⟨histC p m cut es clock νr, hh, hhn, fun b hb => .inl (by simp at hb; rcases hb with rfl | rfl | hb; exact hp0; exact hm0; exact hown.far b (by simpa using hb)), ?_⟩
  replace hp0 := Nat.le_trans hon.size hp0
  replace hm0 := Nat.le_trans hon.size hm0
  replace hown := hown.mono hon.size
  have hne : p ≠ m := by simp at hhn; omega
  simp only [histC, List.cons_append]
  have hvr1 : OneC vr := hown.oneC
  refine ws_l rfl rfl rfl rfl (rd_move rfl) ?_
  refine ws_l rfl rfl rfl rfl (rd_extract rfl) ?_
  refine ws_l rfl rfl rfl rfl (rd_extract rfl) ?_
  refine ws_l rfl rfl rfl rfl (rd_extract rfl) ?_
  refine ws_l rfl rfl rfl rfl (rd_extract rfl) ?_
  refine ws_alloc rfl rfl rfl ?_
  intro b7 hb7
  refine ws_alloc rfl rfl rfl ?_
  intro b8 hb8
  refine ws_store rfl rfl rfl rfl (by first | exact .inl (by assumption) | exact .inr (by simp)) (fun _ h _ => by first | (cases h; done) | exact List.mem_cons_of_mem _ h | exact List.mem_cons_of_mem _ (List.mem_cons_of_mem _ h) | (simp at h ⊢; simp [h])) ?_
  refine ws_store rfl rfl rfl rfl (by first | exact .inl (by assumption) | exact .inr (by simp)) (fun _ h _ => by first | (cases h; done) | exact List.mem_cons_of_mem _ h | exact List.mem_cons_of_mem _ (List.mem_cons_of_mem _ h) | (simp at h ⊢; simp [h])) ?_
  refine ws_l rfl rfl rfl rfl (rd_assign rfl) ?_
  refine ws_l rfl rfl rfl rfl (rd_assign rfl) ?_
  refine ws_nil ?_
  refine qe_then ?_
  refine wc_keep [(4, _), (5, _), (6, _), (7, _), (8, _), (10, _)] rfl ?_
  refine wc_seq ?_
  refine wc_seq ?_
  refine wc_plain [(0, .x true), (1, .x true)] (by kernel_rfl) ?_
  refine ws_l rfl rfl rfl rfl (rd_move rfl) ?_
  refine ws_l rfl rfl rfl rfl (rd_not rfl) ?_
  refine ws_nil ?_
  refine qe_then ?_
  refine wc_false rfl ?_
  refine wc_skip ?_
  refine qe_then ?_
  refine wc_seq ?_
  refine wc_plain [(0, .x true), (1, .x true)] (by kernel_rfl) ?_
  refine ws_alloc rfl rfl rfl ?_
  intro b11 hb11
  refine ws_store rfl rfl rfl rfl (by first | exact .inl (by assumption) | exact .inr (by simp)) (fun _ h _ => by first | (cases h; done) | exact List.mem_cons_of_mem _ h | exact List.mem_cons_of_mem _ (List.mem_cons_of_mem _ h) | (simp at h ⊢; simp [h])) ?_
  refine ws_nil ?_
  refine qe_then ?_
  refine wc_seq ?_
  refine wc_plain [(0, .x true), (1, .x true), (2, .x true), (3, .x true), (4, .x true), (5, .x true), (6, .x true), (7, .x true)] (by kernel_rfl) ?_
  refine ws_l rfl rfl rfl rfl (rd_load rfl) ?_
  refine ws_l rfl rfl rfl rfl (rd_conv rfl (run_conv_int a1 Try.underlying5 Try.underlying3 (wrap_i64 _ (by omega) (by omega)))) ?_
  refine ws_l rfl rfl rfl rfl (rd_rem ((a1.toNat % 20 : Nat) : Int) rfl rfl (by decide) (stop_rem a1 h1)) ?_
  refine ws_l rfl rfl rfl rfl (rd_arith ((stopN a1 : Nat) : Int) rfl rfl rfl (by rw [wrap_i64 _ (by omega) (by omega)]; simp [stopN])) ?_
  refine ws_l rfl rfl rfl rfl (rd_load rfl) ?_
  refine ws_l rfl rfl rfl rfl (rd_lenO hown rfl Try.underlying36) ?_
  refine ws_l rfl rfl rfl rfl (rd_min rfl rfl) ?_
  rw [stop_min]
  refine ws_l rfl rfl rfl rfl (rd_assign rfl) ?_
  refine ws_nil ?_
  refine qe_then ?_
  refine wc_keep [(4, _), (5, _), (6, _), (7, _), (8, _), (11, _), (12, _)] rfl ?_
  refine wc_seq ?_
  refine wc_seq ?_
  refine wc_plain [(0, .x true), (1, .x true)] (by kernel_rfl) ?_
  refine ws_l rfl rfl rfl rfl (rd_load rfl) ?_
  refine ws_call rfl rfl rfl rfl rfl (En.go) (fun w hp hn ho => all_ret (some ⟨p, 0, none⟩) w) (fun _ h => by cases h) (fun hh q h => by first | (cases h; done) | exact hh q h) ?_
  rintro v33 wa wb hpo hon hon2 hp1 ⟨c, rfl, hc0, hc⟩
  refine ⟨[(c, _)], hc, by simp, fun b hb => .inl (by simp at hb; subst hb; exact hc0), ?_⟩
  replace hc0 := Nat.le_trans hon.size hc0
  simp only [List.cons_append, List.nil_append]
  refine ws_nil ?_
  refine qe_then ?_
  refine wc_block ?_
  refine wc_range ([(b11, Obj.cells #[I ((0 : Nat) : Int)] 3 (0, 0)), (m, .map es clock)]) ((c, Obj.cells #[ptr p] 35 (0, 0)) :: (b7, .cells #[ptr p] 35 (0, 0)) :: (b8, .cells #[vr] 36 (0, 0)) :: (b4, .cells #[.int .u8 a1] 5 (0, 0)) :: (b5, .cells (entC x0) 24 (0, 0)) :: (b6, .cells #[.bool false] 4 (0, 0)) :: (p, .cells #[.map (some m), I cut] 86 (0, 0)) :: νr) (fun pre ν => ∃ es1 cl1 L1, ν = [(b11, Obj.cells #[I ((pre.length : Nat) : Int)] 3 (0, 0)), (m, .map es1 cl1)] ∧ MapIs idK entK es1 cl1 L1 ∧ L1.length ≤ 40 + 2 * pre.length ∧ pre.length < stopN a1) (fun pre c ν => ∃ es1 cl1, c = .exit 0 ∧ ν = [(b11, Obj.cells #[I ((pre.length : Nat) : Int)] 3 (0, 0)), (m, .map es1 cl1)] ∧ pre.length = stopN a1) rfl (En.go) rfl rfl (fun b hb => .inl (by simp at hb; rcases hb with rfl | rfl; exact hb11; exact hm0)) ⟨es, clock, L, rfl, hL, by rw [hrel.len]; omega, by simp only [List.length_nil, stopN]; omega⟩ (all1_hist p m cut es clock L hL hne (by rw [hrel.len]; omega) rows hrel c) (fun ζ hζ => ⟨hζ _ (by simp), fun q hq => hζ q (by simp at hq ⊢; rcases hq with h | h <;> simp [h])⟩) ?_ ?_ ?_
  · intro mk D lp pre x rest νr w1 hrec hxs hJr hfr hw1
    obtain ⟨es1, cl1, L1, rfl, hL1, hl1, hlt1⟩ := hJr
    have hpl : pre.length < rows.length := by rw [hxs]; simp
    refine wc_eqh (η' := (lp, mk .ready none) :: (D, dblk) :: (b11, Obj.cells #[I ((pre.length : Nat) : Int)] 3 (0, 0)) :: (m, .map es1 cl1) :: ((c, Obj.cells #[ptr p] 35 (0, 0)) :: (b7, .cells #[ptr p] 35 (0, 0)) :: (b8, .cells #[vr] 36 (0, 0)) :: (b4, .cells #[.int .u8 a1] 5 (0, 0)) :: (b5, .cells (entC x0) 24 (0, 0)) :: (b6, .cells #[.bool false] 4 (0, 0)) :: (p, .cells #[.map (some m), I cut] 86 (0, 0)) :: νr)) rfl ?_
    refine wc_plain [(0, .x true), (1, .x true)] (by kernel_rfl) ?_
    refine ws_alloc rfl rfl rfl ?_
    intro b13 hb13
    refine ws_store rfl rfl rfl rfl (by first | exact .inl (by assumption) | exact .inr (by simp)) (fun _ h _ => by first | (cases h; done) | exact List.mem_cons_of_mem _ h | exact List.mem_cons_of_mem _ (List.mem_cons_of_mem _ h) | (simp at h ⊢; simp [h])) ?_
    refine ws_nil ?_
    refine qe_begin hrec (.inr (by simp)) ?_
    refine wc_block ?_
    refine wc_seq ?_
    refine wc_seq ?_
    refine wc_drawn mixedT _ (fun _ h => h) [(0, .r), (1, .r), (2, .r), (3, .r), (4, .r), (5, .r), (7, .r), (8, .r), (9, .r), (10, .r), (6, .x false), (11, .x true), (12, .x true)] (by kernel_rfl) ?_
    refine ws_r rfl rfl rfl rfl (rd_load rfl) ?_
    refine ws_r rfl rfl rfl rfl (rd_load rfl) ?_
    refine ws_r rfl rfl rfl rfl (rd_lenO hown rfl Try.underlying36) ?_
    refine ws_r rfl rfl rfl rfl (rd_cmp_f rfl rfl rfl (by simp only [cmpP]; omega)) ?_
    refine ws_r rfl rfl rfl rfl (rd_move rfl) ?_
    refine ws_r rfl rfl rfl rfl (rd_load rfl) ?_
    refine ws_r rfl rfl rfl rfl (rd_load rfl) ?_
    refine ws_r rfl rfl rfl rfl (rd_load rfl) ?_
    obtain ⟨gr, capr, curr, rfl, rfl, hgr, hcapr, hcurr⟩ := OwnR.opened hown (by omega)
    have atr := at_row (x := x) (j := pre.length) hcurr (by rw [hxs]; simp)
    refine ws_r rfl rfl rfl rfl (rd_ix rfl rfl Try.underlying36 Try.sizeOf24 (by omega)) ?_
    refine ws_r rfl rfl rfl rfl (rd_load rfl) ?_
    refine ws_callp rfl rfl rfl rfl rfl (En.go) (fun w hp hn ho => of_ret _ w) ?_
    refine ws_late rfl ?_
    refine ws_lp _ rfl rfl rfl rfl (rd_neent rfl rfl (eq_ent24 _ _) (by kernel_rfl)) ?_ ?_
    · intro h46; exact absurd rfl h46
    · intro h46
      refine ws_l rfl rfl rfl rfl (rd_pick_f rfl rfl) ?_
      refine ws_nil ?_
      refine qe_then ?_
      refine wc_keep [(4, _), (5, _), (6, _), (7, _), (11, _), (13, _), (47, _)] rfl ?_
      refine wc_false rfl ?_
      refine wc_skip ?_
      refine qe_then ?_
      refine wc_seq ?_
      refine wc_plain [(0, .x true), (1, .x true), (2, .x true)] (by kernel_rfl) ?_
      refine ws_l rfl rfl rfl rfl (rd_load rfl) ?_
      refine ws_l rfl rfl rfl rfl (rd_arith ((((pre ++ [x]).length : Nat) : Int)) rfl rfl rfl (by rw [wrap_i64 _ (by omega) (by omega)]; simp)) ?_
      refine ws_store rfl rfl rfl rfl (by first | exact .inl (by assumption) | exact .inr (by simp)) (fun _ h _ => by first | (cases h; done) | exact List.mem_cons_of_mem _ h | exact List.mem_cons_of_mem _ (List.mem_cons_of_mem _ h) | (simp at h ⊢; simp [h])) ?_
      refine ws_nil ?_
      refine qe_then ?_
      refine wc_seq ?_
      refine wc_drawn mixedT _ (fun _ h => h) [(0, .r), (1, .r), (2, .x false), (3, .x true)] (by kernel_rfl) ?_
      refine ws_r rfl rfl rfl rfl (rd_load rfl) ?_
      refine ws_r rfl rfl rfl rfl (rd_load rfl) ?_
      refine ws_callp rfl rfl rfl rfl rfl (En.go) (fun w hp hn ho => to_ret _ w) ?_
      refine ws_late rfl ?_
      refine ws_call rfl rfl rfl rfl rfl (En.go) (fun w hp hn ho => add_ret p m cut es1 cl1 L1 hL1 hne (by omega) x0 w (hp.mono (by intro q hq; simp at hq ⊢; rcases hq with h | h <;> simp [h]))) (fun b hb => .inr (by simp at hb; subst hb; simp)) (fun hh q h => by first | (cases h; done) | exact hh q h) ?_
      rintro v53 wa wb hpo hon hon2 hp1 ⟨-, es2, cl2, hm2, hL2⟩
      have hl2 := Rel.addLen (L := L1) x0
      refine ⟨[(m, .map es2 cl2)], fun b o hm => by simp at hm; obtain ⟨rfl, rfl⟩ := hm; exact hm2, by simp, by simp, ?_⟩
      refine ws_nil ?_
      refine qe_then ?_
      refine wc_keep [(4, _), (6, _), (7, _), (11, _), (13, _)] rfl ?_
      refine wc_seq ?_
      refine wc_plain [(0, .x true), (1, .x true), (2, .x true), (3, .x true)] (by kernel_rfl) ?_
      refine ws_l rfl rfl rfl rfl (rd_load rfl) ?_
      refine ws_l rfl rfl rfl rfl (rd_fieldAddr rfl) ?_
      refine ws_l rfl rfl rfl rfl (rd_load rfl) ?_
      refine ws_call rfl rfl rfl rfl rfl (En.go) (fun w hp hn ho => setgone_ret p m cut es2 cl2 _ hL2 hne x.id w (hp.mono (by intro q hq; simp at hq ⊢; rcases hq with h | h <;> simp [h]))) (fun b hb => .inr (by simp at hb; subst hb; simp)) (fun hh q h => by first | (cases h; done) | exact hh q h) ?_
      rintro v57 wa wb hpo hon hon2 hp1 ⟨-, es3, cl3, hm2, hL3⟩
      have hl3 := goneL_len (L := addL L1 x0) x.id
      refine ⟨[(m, .map es3 cl3)], fun b o hm => by simp at hm; obtain ⟨rfl, rfl⟩ := hm; exact hm2, by simp, by simp, ?_⟩
      refine ws_nil ?_
      refine qe_then ?_
      refine wc_keep [(4, _), (6, _), (11, _)] rfl ?_
      refine wc_seq ?_
      refine wc_plain [(0, .x true), (1, .x true), (2, .x true), (3, .x true), (4, .x true), (5, .x true)] (by kernel_rfl) ?_
      refine ws_l rfl rfl rfl rfl (rd_load rfl) ?_
      refine ws_l rfl rfl rfl rfl (rd_load rfl) ?_
      refine ws_l rfl rfl rfl rfl (rd_conv rfl (run_conv_int a1 Try.underlying5 Try.underlying3 (wrap_i64 _ (by omega) (by omega)))) ?_
      refine ws_l rfl rfl rfl rfl (rd_rem ((a1.toNat % 20 : Nat) : Int) rfl rfl (by decide) (stop_rem a1 h1)) ?_
      refine ws_l rfl rfl rfl rfl (rd_arith ((stopN a1 : Nat) : Int) rfl rfl rfl (by rw [wrap_i64 _ (by omega) (by omega)]; simp [stopN])) ?_
      refine ws_lcmp rfl rfl rfl (rfl) (rfl) (rfl) ?_ ?_
      · intro h63
        refine ws_nil ?_
        refine qe_then ?_
        refine wc_keep [(6, _), (63, _)] rfl ?_
        refine wc_true rfl ?_
        refine wc_exit ?_
        refine qe_block_exit' rfl ?_
        exact qe_rexit hrec ([(b11, Obj.cells #[I (((pre ++ [x]).length : Nat) : Int)] 3 (0, 0)), (m, .map es3 cl3)]) (fun b hb => by simp at hb; rcases hb with rfl | rfl <;> exact .inr (by simp)) (⟨es3, cl3, rfl, rfl, by simp at h63 ⊢; omega⟩)
      · intro h63
        refine ws_nil ?_
        refine qe_then ?_
        refine wc_keep [(6, _), (63, _)] rfl ?_
        refine wc_false rfl ?_
        refine wc_skip ?_
        refine qe_block ?_
        exact qe_next hrec ([(b11, Obj.cells #[I (((pre ++ [x]).length : Nat) : Int)] 3 (0, 0)), (m, .map es3 cl3)]) (fun b hb => by simp at hb; rcases hb with rfl | rfl <;> exact .inr (by simp)) (⟨es3, cl3, _, rfl, hL3, by rw [List.length_append]; simp only [List.length_singleton]; omega, by simp at h63 ⊢; omega⟩)
  · intro D νr hD hJr hfr
    obtain ⟨es1, cl1, L1, rfl, hL1, hl1, hlt1⟩ := hJr
    refine qe_eqh (η' := (D, dblk) :: (b11, Obj.cells #[I ((rows.length : Nat) : Int)] 3 (0, 0)) :: (m, .map es1 cl1) :: ((c, Obj.cells #[ptr p] 35 (0, 0)) :: (b7, .cells #[ptr p] 35 (0, 0)) :: (b8, .cells #[vr] 36 (0, 0)) :: (b4, .cells #[.int .u8 a1] 5 (0, 0)) :: (b5, .cells (entC x0) 24 (0, 0)) :: (b6, .cells #[.bool false] 4 (0, 0)) :: (p, .cells #[.map (some m), I cut] 86 (0, 0)) :: νr)) rfl ?_
    have hnn : rows.length = min (stopN a1) rows.length := by omega
    refine qe_block ?_
    refine qe_then ?_
    refine wc_keep [(6, _), (11, _), (12, _)] rfl ?_
    refine wc_seq ?_
    refine wc_plain [(0, .x true), (1, .x true), (2, .x true), (3, .x true)] (by kernel_rfl) ?_
    refine ws_l rfl rfl rfl rfl (rd_load rfl) ?_
    refine ws_l rfl rfl rfl rfl (rd_move rfl) ?_
    refine ws_l rfl rfl rfl rfl (rd_cmp_t rfl rfl rfl (by simp only [cmpP]; omega)) ?_
    refine ws_store rfl rfl rfl rfl (by first | exact .inl (by assumption) | exact .inr (by simp)) (fun _ h _ => by first | (cases h; done) | exact List.mem_cons_of_mem _ h | exact List.mem_cons_of_mem _ (List.mem_cons_of_mem _ h) | (simp at h ⊢; simp [h])) ?_
    refine ws_nil ?_
    refine qe_then ?_
    refine wc_keep [(6, _)] rfl ?_
    refine wc_ret ?_
    refine qe_bodyM1 rfl hD _ (.inl rfl) (res1 rfl (RV.cell rfl)) ?_
    exact ret_end fun w hp hn ho => rfl
  · intro D pre rest c νr hD hxs hXr hfr
    obtain ⟨es1, cl1, rfl, rfl, hlt1⟩ := hXr
    have hpl : pre.length ≤ rows.length := by rw [hxs]; simp
    refine wc_eqh (η' := (D, dblk) :: (b11, Obj.cells #[I ((pre.length : Nat) : Int)] 3 (0, 0)) :: (m, .map es1 cl1) :: ((c, Obj.cells #[ptr p] 35 (0, 0)) :: (b7, .cells #[ptr p] 35 (0, 0)) :: (b8, .cells #[vr] 36 (0, 0)) :: (b4, .cells #[.int .u8 a1] 5 (0, 0)) :: (b5, .cells (entC x0) 24 (0, 0)) :: (b6, .cells #[.bool false] 4 (0, 0)) :: (p, .cells #[.map (some m), I cut] 86 (0, 0)) :: νr)) rfl ?_
    have hnn : pre.length = min (stopN a1) rows.length := by omega
    refine wc_exit ?_
    refine qe_block_exit ?_
    refine qe_then ?_
    refine wc_keep [(6, _), (11, _), (12, _)] rfl ?_
    refine wc_seq ?_
    refine wc_plain [(0, .x true), (1, .x true), (2, .x true), (3, .x true)] (by kernel_rfl) ?_
    refine ws_l rfl rfl rfl rfl (rd_load rfl) ?_
    refine ws_l rfl rfl rfl rfl (rd_move rfl) ?_
    refine ws_l rfl rfl rfl rfl (rd_cmp_t rfl rfl rfl (by simp only [cmpP]; omega)) ?_
    refine ws_store rfl rfl rfl rfl (by first | exact .inl (by assumption) | exact .inr (by simp)) (fun _ h _ => by first | (cases h; done) | exact List.mem_cons_of_mem _ h | exact List.mem_cons_of_mem _ (List.mem_cons_of_mem _ h) | (simp at h ⊢; simp [h])) ?_
    refine ws_nil ?_
    refine qe_then ?_
    refine wc_keep [(6, _)] rfl ?_
    refine wc_ret ?_
    refine qe_bodyM1 rfl hD _ (.inl rfl) (res1 rfl (RV.cell rfl)) ?_
    exact ret_end fun w hp hn ho => rfl

end Go.Proofs.Ytegjmmjjchpeoaa
