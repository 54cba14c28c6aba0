/- Walks: HistoryEncodes, HistoryDecodes. No conditions. -/
import Derived.Test.YtegjmmjjchpeoaaW14
import Derived.Test.YtegjmmjjchpeoaaW17
namespace Go.Proofs.Ytegjmmjjchpeoaa
open Go Go.RowKit Go.Sx
set_option linter.unusedSimpArgs false
set_option linter.unusedVariables false

theorem min2000 (n : Nat) : (if (2000 : Int) < ((n : Nat) : Int) then (2000 : Int) else ((n : Nat) : Int)) = ((min n 2000 : Nat) : Int) := by
  split <;> omega
theorem sliced00 {T E : TypeId} {A : Option Addr} {c k : Nat} (hT : Try.prog.underlying T = some (.slice E)) (hE : ∀ w, (sizeOf E).run Try.prog w = .ok k w) (w : World) : (Instr.slice T (.slice A 0 c) none (some (I ((0 : Nat) : Int))) none).run Try.prog w = .ok (.slice A 0 c) w := by
  have hadd0 : ∀ x : Addr, x.add 0 = x := fun x => by unfold Addr.add; split <;> simp_all
  have h1 : (fun x : Addr => x.add 0) = id := funext hadd0
  by_cases hc : c = 0 <;> simp [Instr.slice, run_underlying hT, Instr.sliceBounds, Instr.sliceBound, asIntOf, hE, hc, h1]
set_option maxRecDepth 100000 in
set_option maxHeartbeats 4000000 in
theorem hencodes_ret (vl : Value) (νl : Heap) (ops : List POp) (hsrc : Src νl vl 37 ops.length (ops.flatMap opL)) (w : World) (hνl : HpOK νl w) (hndl : (νl.map Prod.fst).Nodup) : Ret Try.prog 10 [vl] w [] (fun v _ => v = .bool true) := by
  refine enter (n := 53) (args := [vl]) [] νl Try.func10 rfl rfl rfl hνl hndl ?_
  refine wc_seq ?_
  refine wc_plain [(0, .x true)] (by kernel_rfl) ?_
  refine ws_l rfl rfl rfl rfl (rd_assign rfl) ?_
  refine ws_nil ?_
  refine qe_then ?_
  refine wc_seq ?_
  refine wc_seq ?_
  refine wc_plain [(0, .x true), (1, .x true)] (by kernel_rfl) ?_
  refine ws_callp rfl rfl rfl rfl rfl (En.go) (fun w hp hn ho => known_ret w) ?_
  refine ws_l rfl rfl rfl rfl (rd_not rfl) ?_
  refine ws_nil ?_
  refine qe_then ?_
  refine wc_false rfl ?_
  refine wc_skip ?_
  refine qe_then ?_
  refine wc_seq ?_
  refine wc_plain [(0, .x true), (1, .x true), (2, .x true), (3, .x true), (4, .x true), (5, .x true), (6, .x true), (7, .x true), (8, .x true), (9, .x true), (10, .x true)] (by kernel_rfl) ?_
  refine ws_l rfl rfl rfl rfl (rd_move rfl) ?_
  refine ws_call rfl rfl rfl rfl rfl (En.go) (fun w hp hn ho => play_ret vl νl ops hsrc w (hp.mono (by intro q hq; simp [hq])) hndl) (fun _ h => by cases h) (fun hh q h => by first | (cases h; done) | exact hh q h) ?_
  rintro v14 wa wb hpo hon hon2 hp1 ⟨p, m, cut, es, clock, L, rows, vr, νr, rfl, hp0, hm0, hh, hhn, hL, hrel, hrl, hcut, hown, hchk⟩
  refine ⟨histC p m cut es clock νr, hh, hhn, fun b hb => .inl (by simp at hb; rcases hb with rfl | rfl | hb; exact hp0; exact hm0; exact hown.far b (by simpa using hb)), ?_⟩
  replace hp0 := Nat.le_trans hon.size hp0
  replace hm0 := Nat.le_trans hon.size hm0
  replace hown := hown.mono hon.size
  have hne : p ≠ m := by simp at hhn; omega
  simp only [histC, List.cons_append]
  refine ws_l rfl rfl rfl rfl (rd_move rfl) ?_
  refine ws_l rfl rfl rfl rfl (rd_extract rfl) ?_
  refine ws_l rfl rfl rfl rfl (rd_extract rfl) ?_
  refine ws_l rfl rfl rfl rfl (rd_extract rfl) ?_
  refine ws_l rfl rfl rfl rfl (rd_extract rfl) ?_
  refine ws_l rfl rfl rfl rfl (rd_assign rfl) ?_
  refine ws_l rfl rfl rfl rfl (rd_assign rfl) ?_
  refine ws_l rfl rfl rfl rfl (rd_assign rfl) ?_
  refine ws_l rfl rfl rfl rfl (rd_assign rfl) ?_
  refine ws_nil ?_
  refine qe_then ?_
  refine wc_keep [(2, _), (3, _), (4, _), (5, _), (6, _)] rfl ?_
  refine wc_seq ?_
  refine wc_seq ?_
  refine wc_plain [(0, .x true), (1, .x true)] (by kernel_rfl) ?_
  refine ws_l rfl rfl rfl rfl (rd_move rfl) ?_
  refine ws_l rfl rfl rfl rfl (rd_not rfl) ?_
  refine ws_nil ?_
  refine qe_then ?_
  refine wc_false rfl ?_
  refine wc_skip ?_
  refine qe_then ?_
  refine wc_seq ?_
  refine wc_plain [(0, .x true), (1, .x true), (2, .x true)] (by kernel_rfl) ?_
  refine ws_l rfl rfl rfl rfl (rd_move rfl) ?_
  refine ws_call rfl rfl rfl rfl rfl (En.go) (fun w hp hn ho => encode_ret p m cut es clock L hL hne (by rw [hrel.len]; omega) rows hrel hchk hcut w (hp.mono (by intro q hq; simp at hq ⊢; rcases hq with h | h <;> simp [h]))) (fun _ h => by cases h) (fun hh q h => by first | (cases h; done) | exact hh q h) ?_
  rintro v22 wa wb hpo hon hon2 hp1 ⟨νb, hownb, hνb⟩
  refine ⟨νb, hνb, hownb.nd, fun b hb => .inl (hownb.far b hb), ?_⟩
  replace hownb := hownb.mono hon.size
  have hel := encB_len rows cut
  obtain ⟨gb, capb, curb, rfl, rfl, hgb, hcapb, hcurb⟩ := OwnR.opened hownb (by omega)
  have hBb : BytesAt curb 0 (encB rows cut).length (encB rows cut) := bytes_of rfl hcurb
  obtain ⟨hdec, hrw, hn4⟩ := dec_enc hcut hrel.srt hchk
  simp only [List.cons_append, List.nil_append]
  refine ws_l rfl rfl rfl rfl (rd_assign rfl) ?_
  refine ws_nil ?_
  refine qe_then ?_
  refine wc_keep [(2, _), (3, _), (4, _), (5, _), (7, _)] rfl ?_
  refine wc_seq ?_
  refine wc_plain [(0, .x true), (1, .x true), (2, .x true), (3, .x true), (4, .x true), (5, .x true), (6, .x true)] (by kernel_rfl) ?_
  refine ws_l rfl rfl rfl rfl (rd_move rfl) ?_
  refine ws_call rfl rfl rfl rfl rfl (En.go) (fun w hp hn ho => decode_ret gb 0 _ capb curb 5 (0, 0) (encB rows cut) hBb hcapb (by omega) w (hp.mono (by simp))) (fun _ h => by cases h) (fun hh q h => by first | (cases h; done) | exact hh q h) ?_
  rintro v25 wa wb hpo hon hon2 hp1 (⟨hbad, -⟩ | ⟨-, p2, m2, es2, cl2, L2, rfl, hp20, hm20, hne2, hh2, hL2, hrel2⟩)
  · exact absurd hdec hbad
  · rw [hrw] at hrel2; rw [hn4] at hh2
    refine ⟨hist p2 m2 cut es2 cl2, hh2, by simp [hne2], fun b hb => .inl (by simp at hb; rcases hb with rfl | rfl; exact hp20; exact hm20), ?_⟩
    simp only [hist, List.cons_append, List.nil_append]
    refine ws_l rfl rfl rfl rfl (rd_move rfl) ?_
    refine ws_l rfl rfl rfl rfl (rd_extract rfl) ?_
    refine ws_l rfl rfl rfl rfl (rd_extract rfl) ?_
    refine ws_l rfl rfl rfl rfl (rd_assign rfl) ?_
    refine ws_l rfl rfl rfl rfl (rd_assign rfl) ?_
    refine ws_nil ?_
    refine qe_then ?_
    refine wc_keep [(2, _), (3, _), (4, _), (5, _), (7, _), (8, _), (9, _)] rfl ?_
    refine wc_seq ?_
    refine wc_drawn mixedT _ (fun _ h => h) [(0, .r), (1, .r), (2, .r), (3, .r), (4, .x false), (5, .x false), (6, .r), (7, .r), (8, .r), (9, .r), (10, .r), (11, .r), (12, .r), (13, .r), (14, .r), (15, .r), (16, .r), (17, .r), (18, .x false), (19, .r), (20, .r), (21, .r), (22, .r), (23, .x true), (24, .x true), (25, .x true)] (by kernel_rfl) ?_
    refine ws_r rfl rfl rfl rfl (rd_move rfl) ?_
    refine ws_r rfl rfl rfl rfl (rd_str rfl Try.underlying64 Try.underlying5 Try.underlying9) ?_
    refine ws_r rfl rfl rfl rfl (rd_move rfl) ?_
    refine ws_r rfl rfl rfl rfl (rd_move rfl) ?_
    refine ws_call rfl rfl rfl rfl rfl (En.go) (fun w hp hn ho => encode_ref vr νr rows (hown.mono (Nat.zero_le _)) (by omega) (by omega) hchk cut hcut w (hp.mono (by intro q hq; simp [hq])) hown.nd) (fun _ h => by cases h) (fun hh q h => hh q h) ?_
    rintro v32 wa wb hpo hon hon2 hp1 ⟨νe, howne, hνe⟩
    refine ⟨νe, hνe, howne.nd, fun b hb => .inl (howne.far b hb), ?_⟩
    obtain ⟨ge, cape, cure, rfl, rfl, hge, hcape, hcure⟩ := OwnR.opened howne (by omega)
    have hBe : BytesAt cure 0 (encB rows cut).length (encB rows cut) := bytes_of rfl hcure
    simp only [List.cons_append, List.nil_append]
    refine ws_l rfl rfl rfl rfl (rd_str rfl Try.underlying64 Try.underlying5 Try.underlying9) ?_
    refine ws_r rfl rfl rfl rfl (rd_streq_t rfl rfl rfl) ?_
    refine ws_r rfl rfl rfl rfl (rd_move rfl) ?_
    refine ws_r rfl rfl rfl rfl (rd_move rfl) ?_
    refine ws_r rfl rfl rfl rfl (rd_cmp_t rfl rfl rfl (by decide)) ?_
    refine ws_r rfl rfl rfl rfl (rd_pick_t rfl rfl) ?_
    refine ws_r rfl rfl rfl rfl (rd_move rfl) ?_
    refine ws_r rfl rfl rfl rfl (rd_move rfl) ?_
    refine ws_r rfl rfl rfl rfl (rd_ptr_nil rfl rfl Try.underlying35 rfl) ?_
    refine ws_r rfl rfl rfl rfl (rd_pick_t rfl rfl) ?_
    refine ws_r rfl rfl rfl rfl (rd_move rfl) ?_
    refine ws_r rfl rfl rfl rfl (rd_move rfl) ?_
    refine ws_r rfl rfl rfl rfl (rd_move rfl) ?_
    refine ws_callp rfl rfl rfl rfl rfl (En.go) (fun w hp hn ho => (equal_ret p2 p cut cut m2 m es2 es cl2 clock L2 L hL2 hL w (hp.mono (by intro q hq; simp at hq ⊢; rcases hq with h | h | h | h <;> simp [h])) (by simp at hn ⊢; omega)).mono (fun _ h => h) (fun v w1 _ h => by rw [h, decide_eq_true ⟨rfl, (hrel2.eqM hrel).2 rfl⟩])) ?_
    refine ws_r rfl rfl rfl rfl (rd_pick_t rfl rfl) ?_
    refine ws_r rfl rfl rfl rfl (rd_move rfl) ?_
    refine ws_r rfl rfl rfl rfl (rd_move rfl) ?_
    refine ws_r rfl rfl rfl rfl (rd_move rfl) ?_
    refine ws_late rfl ?_
    refine ws_callp rfl rfl rfl rfl rfl (En.go) (fun w hp hn ho => (equal_ret p p2 cut cut m m2 es es2 clock cl2 L L2 hL hL2 w (hp.mono (by intro q hq; simp at hq ⊢; rcases hq with h | h | h | h <;> simp [h])) (by simp at hn ⊢; omega)).mono (fun _ h => h) (fun v w1 _ h => by rw [h, decide_eq_true ⟨rfl, (hrel.eqM hrel2).2 rfl⟩])) ?_
    refine ws_l rfl rfl rfl rfl (rd_pick_t rfl rfl) ?_
    refine ws_l rfl rfl rfl rfl (rd_assign rfl) ?_
    refine ws_nil ?_
    refine qe_then ?_
    refine wc_keep [(2, _)] rfl ?_
    refine wc_ret ?_
    refine qe_body _ (.inl rfl) (res1 rfl (RV.tmp rfl)) ?_
    exact ret_end fun w hp hn ho => rfl
set_option maxRecDepth 100000 in
set_option maxHeartbeats 1000000 in
theorem hdecodes0 (A : Option Addr) (c : Nat) (w : World) : Ret Try.prog 9 [.slice A 0 c] w [] (fun v _ => v = .bool true) := by
  refine enter (n := 55) (args := [.slice A 0 c]) [] [] Try.func9 rfl rfl rfl (HpOK.nil w) (by simp) ?_
  refine wc_seq ?_
  refine wc_plain [(0, .x true)] (by kernel_rfl) ?_
  refine ws_l rfl rfl rfl rfl (rd_assign rfl) ?_
  refine ws_nil ?_
  refine qe_then ?_
  refine wc_seq ?_
  refine wc_plain [(0, .x true), (1, .x true), (2, .x true), (3, .x true), (4, .x true), (5, .x true)] (by kernel_rfl) ?_
  refine ws_l rfl rfl rfl rfl (rd_move rfl) ?_
  refine ws_l rfl rfl rfl rfl (rd_move rfl) ?_
  refine ws_l rfl rfl rfl rfl (rd_len rfl Try.underlying64) ?_
  refine ws_l rfl rfl rfl rfl (rd_min rfl rfl) ?_
  rw [min2000]
  refine ws_l rfl rfl rfl rfl (rd_slice_h Try.underlying64 rfl rfl (sliced00 Try.underlying64 Try.sizeOf5)) ?_
  refine ws_l rfl rfl rfl rfl (rd_assign rfl) ?_
  refine ws_nil ?_
  refine qe_then ?_
  refine wc_keep [(0, _), (2, _)] rfl ?_
  refine wc_seq ?_
  refine wc_seq ?_
  refine wc_plain [(0, .x true), (1, .x true)] (by kernel_rfl) ?_
  refine ws_callp rfl rfl rfl rfl rfl (En.go) (fun w hp hn ho => known_ret w) ?_
  refine ws_l rfl rfl rfl rfl (rd_not rfl) ?_
  refine ws_nil ?_
  refine qe_then ?_
  refine wc_false rfl ?_
  refine wc_skip ?_
  refine qe_then ?_
  refine wc_seq ?_
  refine wc_plain [(0, .x true), (1, .x true), (2, .x true), (3, .x true), (4, .x true), (5, .x true), (6, .x true)] (by kernel_rfl) ?_
  refine ws_l rfl rfl rfl rfl (rd_move rfl) ?_
  refine ws_callp rfl rfl rfl rfl rfl (En.go) (fun w hp hn ho => decode_short A 0 c (by omega) w) ?_
  refine ws_l rfl rfl rfl rfl (rd_move rfl) ?_
  refine ws_l rfl rfl rfl rfl (rd_extract rfl) ?_
  refine ws_l rfl rfl rfl rfl (rd_extract rfl) ?_
  refine ws_l rfl rfl rfl rfl (rd_assign rfl) ?_
  refine ws_l rfl rfl rfl rfl (rd_assign rfl) ?_
  refine ws_nil ?_
  refine qe_then ?_
  refine wc_keep [(0, _), (2, _), (3, _), (4, _)] rfl ?_
  refine wc_seq ?_
  refine wc_plain [(0, .x true), (1, .x true), (2, .x true), (3, .x true), (4, .x true), (5, .x true), (6, .x true), (7, .x true), (8, .x true)] (by kernel_rfl) ?_
  refine ws_l rfl rfl rfl rfl (rd_move rfl) ?_
  refine ws_callp rfl rfl rfl rfl rfl (En.go) (fun w hp hn ho => decode_refshort A 0 c (by omega) w) ?_
  refine ws_l rfl rfl rfl rfl (rd_move rfl) ?_
  refine ws_l rfl rfl rfl rfl (rd_extract rfl) ?_
  refine ws_l rfl rfl rfl rfl (rd_extract rfl) ?_
  refine ws_l rfl rfl rfl rfl (rd_extract rfl) ?_
  refine ws_l rfl rfl rfl rfl (rd_assign rfl) ?_
  refine ws_l rfl rfl rfl rfl (rd_assign rfl) ?_
  refine ws_l rfl rfl rfl rfl (rd_assign rfl) ?_
  refine ws_nil ?_
  refine qe_then ?_
  refine wc_keep [(0, _), (2, _), (3, _), (4, _), (5, _), (6, _), (7, _)] rfl ?_
  refine wc_seq ?_
  refine wc_seq ?_
  refine wc_plain [(0, .x true), (1, .x true), (2, .x true)] (by kernel_rfl) ?_
  refine ws_l rfl rfl rfl rfl (rd_move rfl) ?_
  refine ws_l rfl rfl rfl rfl (rd_move rfl) ?_
  refine ws_l rfl rfl rfl rfl (rd_cmp_f rfl rfl rfl (by decide)) ?_
  refine ws_nil ?_
  refine qe_then ?_
  refine wc_false rfl ?_
  refine wc_skip ?_
  refine qe_then ?_
  refine wc_seq ?_
  refine wc_seq ?_
  refine wc_plain [(0, .x true), (1, .x true)] (by kernel_rfl) ?_
  refine ws_l rfl rfl rfl rfl (rd_move rfl) ?_
  refine ws_l rfl rfl rfl rfl (rd_cmp_t rfl rfl rfl (by decide)) ?_
  refine ws_nil ?_
  refine qe_then ?_
  refine wc_keep [(0, _), (2, _), (3, _), (5, _), (6, _), (30, _)] rfl ?_
  refine wc_true rfl ?_
  refine wc_seq ?_
  refine wc_plain [(0, .x true), (1, .x true), (2, .x true)] (by kernel_rfl) ?_
  refine ws_l rfl rfl rfl rfl (rd_move rfl) ?_
  refine ws_l rfl rfl rfl rfl (rd_nil_nil rfl rfl Try.underlying35 rfl) ?_
  refine ws_l rfl rfl rfl rfl (rd_assign rfl) ?_
  refine ws_nil ?_
  refine qe_then ?_
  refine wc_ret ?_
  refine qe_then_ret ?_
  refine qe_body _ (.inl rfl) (res1 rfl (RV.tmp rfl)) ?_
  exact ret_end fun w hp hn ho => rfl
set_option maxRecDepth 100000 in
set_option maxHeartbeats 4000000 in
theorem hdecodes_ret (g o n c : Nat) (cs : Array Value) (E : TypeId) (fr : Nat × Nat) (bs : List UInt8) (hB : BytesAt cs o n bs) (hnc : n ≤ c) (w : World) (hη : HpOK [(g, .cells cs E fr)] w) : Ret Try.prog 9 [.slice (some ⟨g, o, none⟩) n c] w [] (fun v _ => v = .bool true) := by
  have hBt : BytesAt cs o (min n 2000) (bs.take (min n 2000)) := bytes_sub0 hB _ (by omega)
  refine enter (n := 55) (args := [.slice (some ⟨g, o, none⟩) n c]) [] [(g, .cells cs E fr)] Try.func9 rfl rfl rfl hη (by simp) ?_
  refine wc_seq ?_
  refine wc_plain [(0, .x true)] (by kernel_rfl) ?_
  refine ws_l rfl rfl rfl rfl (rd_assign rfl) ?_
  refine ws_nil ?_
  refine qe_then ?_
  refine wc_seq ?_
  refine wc_plain [(0, .x true), (1, .x true), (2, .x true), (3, .x true), (4, .x true), (5, .x true)] (by kernel_rfl) ?_
  refine ws_l rfl rfl rfl rfl (rd_move rfl) ?_
  refine ws_l rfl rfl rfl rfl (rd_move rfl) ?_
  refine ws_l rfl rfl rfl rfl (rd_len rfl Try.underlying64) ?_
  refine ws_l rfl rfl rfl rfl (rd_min rfl rfl) ?_
  rw [min2000]
  refine ws_l rfl rfl rfl rfl (rd_sliceHi Try.underlying64 rfl rfl Try.sizeOf5 (by omega)) ?_
  refine ws_l rfl rfl rfl rfl (rd_assign rfl) ?_
  refine ws_nil ?_
  refine qe_then ?_
  refine wc_keep [(0, _), (2, _)] rfl ?_
  refine wc_seq ?_
  refine wc_seq ?_
  refine wc_plain [(0, .x true), (1, .x true)] (by kernel_rfl) ?_
  refine ws_callp rfl rfl rfl rfl rfl (En.go) (fun w hp hn ho => known_ret w) ?_
  refine ws_l rfl rfl rfl rfl (rd_not rfl) ?_
  refine ws_nil ?_
  refine qe_then ?_
  refine wc_false rfl ?_
  refine wc_skip ?_
  refine qe_then ?_
  refine wc_seq ?_
  refine wc_plain [(0, .x true), (1, .x true), (2, .x true), (3, .x true), (4, .x true), (5, .x true), (6, .x true)] (by kernel_rfl) ?_
  refine ws_l rfl rfl rfl rfl (rd_move rfl) ?_
  refine ws_call rfl rfl rfl rfl rfl (En.go) (fun w hp hn ho => decode_ret g o (min n 2000) c cs E fr (bs.take (min n 2000)) hBt (by omega) (by omega) w (hp.mono (by simp))) (fun _ h => by cases h) (fun hh q h => by first | (cases h; done) | exact hh q h) ?_
  rintro v17 wa wb hpo hon hon2 hp1 (⟨hbad, rfl⟩ | ⟨hdec, p2, m2, es2, cl2, L2, rfl, hp20, hm20, hne2, hh2, hL2, hrel2⟩)
  · refine ⟨[], HpOK.nil _, by simp, by simp, ?_⟩
    simp only [List.nil_append]
    refine ws_l rfl rfl rfl rfl (rd_move rfl) ?_
    refine ws_l rfl rfl rfl rfl (rd_extract rfl) ?_
    refine ws_l rfl rfl rfl rfl (rd_extract rfl) ?_
    refine ws_l rfl rfl rfl rfl (rd_assign rfl) ?_
    refine ws_l rfl rfl rfl rfl (rd_assign rfl) ?_
    refine ws_nil ?_
    refine qe_then ?_
    refine wc_keep [(0, _), (2, _), (3, _), (4, _)] rfl ?_
    refine wc_seq ?_
    refine wc_plain [(0, .x true), (1, .x true), (2, .x true), (3, .x true), (4, .x true), (5, .x true), (6, .x true), (7, .x true), (8, .x true)] (by kernel_rfl) ?_
    refine ws_l rfl rfl rfl rfl (rd_move rfl) ?_
    refine ws_call rfl rfl rfl rfl rfl (En.go) (fun w hp hn ho => decode_ref g o (min n 2000) c cs E fr (bs.take (min n 2000)) hBt (by omega) (by omega) w (hp.mono (by simp))) (fun _ h => by cases h) (fun hh q h => by first | (cases h; done) | exact hh q h) ?_
    rintro v22 wa wb hpo hon hon2 hp1 (⟨hbd, rfl⟩ | ⟨hdc, v5, ν5, rfl, hown5, hν5⟩)
    ·
      refine ⟨[], HpOK.nil _, by simp, by simp, ?_⟩
      simp only [List.nil_append]
      refine ws_l rfl rfl rfl rfl (rd_move rfl) ?_
      refine ws_l rfl rfl rfl rfl (rd_extract rfl) ?_
      refine ws_l rfl rfl rfl rfl (rd_extract rfl) ?_
      refine ws_l rfl rfl rfl rfl (rd_extract rfl) ?_
      refine ws_l rfl rfl rfl rfl (rd_assign rfl) ?_
      refine ws_l rfl rfl rfl rfl (rd_assign rfl) ?_
      refine ws_l rfl rfl rfl rfl (rd_assign rfl) ?_
      refine ws_nil ?_
      refine qe_then ?_
      refine wc_keep [(0, _), (2, _), (3, _), (4, _), (5, _), (6, _), (7, _)] rfl ?_
      refine wc_seq ?_
      refine wc_seq ?_
      refine wc_plain [(0, .x true), (1, .x true), (2, .x true)] (by kernel_rfl) ?_
      refine ws_l rfl rfl rfl rfl (rd_move rfl) ?_
      refine ws_l rfl rfl rfl rfl (rd_move rfl) ?_
      refine ws_l rfl rfl rfl rfl (rd_cmp_f rfl rfl rfl (by decide)) ?_
      refine ws_nil ?_
      refine qe_then ?_
      refine wc_false rfl ?_
      refine wc_skip ?_
      refine qe_then ?_
      refine wc_seq ?_
      refine wc_seq ?_
      refine wc_plain [(0, .x true), (1, .x true)] (by kernel_rfl) ?_
      refine ws_l rfl rfl rfl rfl (rd_move rfl) ?_
      refine ws_l rfl rfl rfl rfl (rd_cmp_t rfl rfl rfl (by decide)) ?_
      refine ws_nil ?_
      refine qe_then ?_
      refine wc_keep [(0, _), (2, _), (3, _), (5, _), (6, _), (30, _)] rfl ?_
      refine wc_true rfl ?_
      refine wc_seq ?_
      refine wc_plain [(0, .x true), (1, .x true), (2, .x true)] (by kernel_rfl) ?_
      refine ws_l rfl rfl rfl rfl (rd_move rfl) ?_
      refine ws_l rfl rfl rfl rfl (rd_nil_nil rfl rfl Try.underlying35 rfl) ?_
      refine ws_l rfl rfl rfl rfl (rd_assign rfl) ?_
      refine ws_nil ?_
      refine qe_then ?_
      refine wc_ret ?_
      refine qe_then_ret ?_
      refine qe_body _ (.inl rfl) (res1 rfl (RV.tmp rfl)) ?_
      exact ret_end fun w hp hn ho => rfl
    ·
      exact absurd hdc hbad
  · refine ⟨hist p2 m2 (n4 (bs.take (min n 2000)) 0) es2 cl2, hh2, by simp [hne2], fun b hb => .inl (by simp at hb; rcases hb with rfl | rfl; exact hp20; exact hm20), ?_⟩
    have hb3 := minuteB_bounds hdec.1.2.2
    have hcnt : cnt (bs.take (min n 2000)) ≤ 2000 := by unfold cnt; rw [List.length_take]; omega
    have hrl2 := hrel2.len
    rw [rowsB_len] at hrl2
    simp only [hist, List.cons_append, List.nil_append]
    refine ws_l rfl rfl rfl rfl (rd_move rfl) ?_
    refine ws_l rfl rfl rfl rfl (rd_extract rfl) ?_
    refine ws_l rfl rfl rfl rfl (rd_extract rfl) ?_
    refine ws_l rfl rfl rfl rfl (rd_assign rfl) ?_
    refine ws_l rfl rfl rfl rfl (rd_assign rfl) ?_
    refine ws_nil ?_
    refine qe_then ?_
    refine wc_keep [(0, _), (2, _), (3, _), (4, _)] rfl ?_
    refine wc_seq ?_
    refine wc_plain [(0, .x true), (1, .x true), (2, .x true), (3, .x true), (4, .x true), (5, .x true), (6, .x true), (7, .x true), (8, .x true)] (by kernel_rfl) ?_
    refine ws_l rfl rfl rfl rfl (rd_move rfl) ?_
    refine ws_call rfl rfl rfl rfl rfl (En.go) (fun w hp hn ho => decode_ref g o (min n 2000) c cs E fr (bs.take (min n 2000)) hBt (by omega) (by omega) w (hp.mono (by simp))) (fun _ h => by cases h) (fun hh q h => by first | (cases h; done) | exact hh q h) ?_
    rintro v22 wa wb hpo hon hon2 hp1 (⟨hbd, rfl⟩ | ⟨hdc, v5, ν5, rfl, hown5, hν5⟩)
    ·
      exact absurd hdec hbd
    ·
      refine ⟨ν5, hν5, hown5.nd, fun b hb => .inl (hown5.far b hb), ?_⟩
      refine ws_l rfl rfl rfl rfl (rd_move rfl) ?_
      refine ws_l rfl rfl rfl rfl (rd_extract rfl) ?_
      refine ws_l rfl rfl rfl rfl (rd_extract rfl) ?_
      refine ws_l rfl rfl rfl rfl (rd_extract rfl) ?_
      refine ws_l rfl rfl rfl rfl (rd_assign rfl) ?_
      refine ws_l rfl rfl rfl rfl (rd_assign rfl) ?_
      refine ws_l rfl rfl rfl rfl (rd_assign rfl) ?_
      refine ws_nil ?_
      refine qe_then ?_
      refine wc_keep [(0, _), (2, _), (3, _), (4, _), (5, _), (6, _), (7, _)] rfl ?_
      refine wc_seq ?_
      refine wc_seq ?_
      refine wc_plain [(0, .x true), (1, .x true), (2, .x true)] (by kernel_rfl) ?_
      refine ws_l rfl rfl rfl rfl (rd_move rfl) ?_
      refine ws_l rfl rfl rfl rfl (rd_move rfl) ?_
      refine ws_l rfl rfl rfl rfl (rd_cmp_f rfl rfl rfl (by decide)) ?_
      refine ws_nil ?_
      refine qe_then ?_
      refine wc_false rfl ?_
      refine wc_skip ?_
      refine qe_then ?_
      refine wc_seq ?_
      refine wc_seq ?_
      refine wc_plain [(0, .x true), (1, .x true)] (by kernel_rfl) ?_
      refine ws_l rfl rfl rfl rfl (rd_move rfl) ?_
      refine ws_l rfl rfl rfl rfl (rd_cmp_f rfl rfl rfl (by decide)) ?_
      refine ws_nil ?_
      refine qe_then ?_
      refine wc_keep [(0, _), (2, _), (3, _), (5, _), (6, _), (30, _)] rfl ?_
      refine wc_false rfl ?_
      refine wc_skip ?_
      refine qe_then ?_
      refine wc_seq ?_
      refine wc_drawn mixedT _ (fun _ h => h) [(0, .r), (1, .r), (2, .r), (3, .r), (5, .r), (4, .x false), (6, .x false), (7, .r), (8, .r), (9, .r), (11, .r), (10, .x false), (12, .r), (13, .r), (14, .r), (15, .r), (18, .r), (19, .r), (16, .x false), (17, .x false), (20, .x true), (21, .x true), (22, .x true)] (by kernel_rfl) ?_
      refine ws_r rfl rfl rfl rfl (rd_move rfl) ?_
      refine ws_r rfl rfl rfl rfl (rd_ptr_nil rfl rfl Try.underlying35 rfl) ?_
      refine ws_r rfl rfl rfl rfl (rd_move rfl) ?_
      refine ws_r rfl rfl rfl rfl (rd_move rfl) ?_
      refine ws_r rfl rfl rfl rfl (rd_move rfl) ?_
      refine ws_call rfl rfl rfl rfl rfl (En.go) (fun w hp hn ho => entries_ret p2 m2 (n4 (bs.take (min n 2000)) 0) es2 cl2 L2 hL2 hne2 (by omega) _ hrel2 w (hp.mono (by intro q hq; simp at hq ⊢; rcases hq with h | h <;> simp [h]))) (fun _ h => by cases h) (fun hh q h => hh q h) ?_
      rintro v37 wa wb hpo hon hon2 hp1 ⟨νe, howne, hνe⟩
      refine ⟨νe, hνe, howne.nd, fun b hb => .inl (howne.far b hb), ?_⟩
      refine ws_callp rfl rfl rfl rfl rfl (En.go) (fun w hp hn ho => (same_ret _ νe _ (howne.mono (Nat.zero_le _)) _ ν5 (rowsB (bs.take (min n 2000)) (cnt (bs.take (min n 2000)))) (hown5.mono (Nat.zero_le _)) (by rw [rowsB_len]; omega) w (hp.mono (by intro q hq; simp at hq ⊢; rcases hq with h | h <;> simp [h])) (SubH.nd hn)).mono (fun _ h => h) (fun v w1 _ h => by rw [h, decide_eq_true rfl])) ?_
      refine ws_r rfl rfl rfl rfl (rd_pick_t rfl rfl) ?_
      refine ws_r rfl rfl rfl rfl (rd_move rfl) ?_
      refine ws_r rfl rfl rfl rfl (rd_move rfl) ?_
      refine ws_r rfl rfl rfl rfl (rd_move rfl) ?_
      refine ws_callp rfl rfl rfl rfl rfl (En.go) (fun w hp hn ho => cutoff_ret p2 m2 (n4 (bs.take (min n 2000)) 0) w (hp.mono (by simp))) ?_
      refine ws_r rfl rfl rfl rfl (rd_cmp_t rfl rfl rfl (by simp only [cmpP])) ?_
      refine ws_r rfl rfl rfl rfl (rd_pick_t rfl rfl) ?_
      refine ws_r rfl rfl rfl rfl (rd_move rfl) ?_
      refine ws_r rfl rfl rfl rfl (rd_move rfl) ?_
      refine ws_r rfl rfl rfl rfl (rd_move rfl) ?_
      refine ws_r rfl rfl rfl rfl (rd_str rfl Try.underlying64 Try.underlying5 Try.underlying9) ?_
      refine ws_call rfl rfl rfl rfl rfl (En.go) (fun w hp hn ho => encode_ret p2 m2 (n4 (bs.take (min n 2000)) 0) es2 cl2 L2 hL2 hne2 (by omega) _ hrel2 (upto_chk hdec.2) hb3 w (hp.mono (by intro q hq; simp at hq ⊢; rcases hq with h | h <;> simp [h]))) (fun _ h => by cases h) (fun hh q h => hh q h) ?_
      rintro v49 wa wb hpo hon hon2 hp1 ⟨νb, hownb, hνb⟩
      refine ⟨νb, hνb, hownb.nd, fun b hb => .inl (hownb.far b hb), ?_⟩
      have hel := encB_len (rowsB (bs.take (min n 2000)) (cnt (bs.take (min n 2000)))) (n4 (bs.take (min n 2000)) 0)
      obtain ⟨gb, capb, curb, rfl, rfl, hgb, hcapb, hcurb⟩ := OwnR.opened hownb (by omega)
      have hBb : BytesAt curb 0 (encB (rowsB (bs.take (min n 2000)) (cnt (bs.take (min n 2000)))) (n4 (bs.take (min n 2000)) 0)).length (encB (rowsB (bs.take (min n 2000)) (cnt (bs.take (min n 2000)))) (n4 (bs.take (min n 2000)) 0)) := bytes_of rfl hcurb
      simp only [List.cons_append, List.nil_append]
      refine ws_l rfl rfl rfl rfl (rd_str rfl Try.underlying64 Try.underlying5 Try.underlying9) ?_
      refine ws_late rfl ?_
      refine ws_l rfl rfl rfl rfl (rd_streq_t rfl rfl (by rw [enc_dec hdec])) ?_
      refine ws_l rfl rfl rfl rfl (rd_pick_t rfl rfl) ?_
      refine ws_l rfl rfl rfl rfl (rd_assign rfl) ?_
      refine ws_nil ?_
      refine qe_then ?_
      refine wc_keep [(2, _)] rfl ?_
      refine wc_ret ?_
      refine qe_body _ (.inl rfl) (res1 rfl (RV.tmp rfl)) ?_
      exact ret_end fun w hp hn ho => rfl

end Go.Proofs.Ytegjmmjjchpeoaa
