/- Walk: KeyringJudges. No conditions. -/
import Derived.Test.YtheioljidangkaaW20
import Derived.Test.YtheioljidangkaaOpn
namespace Go.Proofs.Ytheioljidangkaa
open Go Go.RowKit Go.Sx
set_option linter.unusedSimpArgs false
set_option linter.unusedVariables false

set_option maxRecDepth 100000 in
set_option maxHeartbeats 8000000 in
theorem judges_ret (v : Value) (φ : Heap) (ms : List MV) (hsrc : Src φ v 7 ms.length (ms.flatMap mvL)) (pl : Vector UInt8 5) (number : Int) (w : World) (hφ : HpOK φ w) (hnd : (φ.map Prod.fst).Nodup) : Ret Try.prog 3 [v, idK pl, I number] w [] (fun u _ => u = .bool true) := by
  refine enter (n := 63) (args := [v, idK pl, I number]) [] φ Try.func3 rfl rfl rfl hφ hnd ?_
  refine wc_seq ?_
  refine wc_plain [(0, .x true), (1, .x true)] (by kernel_rfl) ?_
  refine ws_box rfl rfl rfl rfl ?_
  intro b4 hb4
  refine ws_l rfl rfl rfl rfl (rd_assign rfl) ?_
  refine ws_nil ?_
  refine qe_then ?_
  refine wc_seq ?_
  refine wc_seq ?_
  refine wc_plain [(0, .x true), (1, .x true)] (by kernel_rfl) ?_
  refine ws_callp rfl rfl rfl rfl rfl (En.go) (fun w hp hn ho => known_ret w) ?_
  refine ws_l rfl rfl rfl rfl (rd_not rfl) ?_
  refine ws_nil ?_
  refine qe_then ?_
  refine wc_false rfl ?_
  refine wc_skip ?_
  refine qe_then ?_
  refine wc_seq ?_
  refine wc_plain [(0, .x true), (1, .x true), (2, .x true), (3, .x true), (4, .x true), (5, .x true), (6, .x true), (7, .x true), (8, .x true)] (by kernel_rfl) ?_
  refine ws_l rfl rfl rfl rfl (rd_move rfl) ?_
  refine ws_call rfl rfl rfl rfl rfl (En.go) (fun w hp hn ho => build_law v φ ms hsrc 20 (by omega) w (hp.mono SubH.mem) (SubH.nd hn)) (fun _ h => by cases h) (fun hh q h => by first | (cases h; done) | exact hh q h) ?_
  rintro v18 wa wb hpo hon hon2 hp1 ⟨p, m, k, es, c, ws, d, L, W, v8, νl, rfl, hph, hpn, hpf, hL, hW, hok, hlo⟩
  refine ⟨_, hph, hpn, fun b hb => .inl (hpf b hb), ?_⟩
  replace hlo := hlo.mono hon.size
  have hpf' := fun b hb => Nat.le_trans hon.size (hpf b hb)
  have hl24 : (buildF (ms.take 20)).length < 8192 := by have h1 := buildF_len (ms.take 20); rw [List.length_take] at h1; omega
  simp only [List.cons_append, List.append_assoc]
  refine ws_l rfl rfl rfl rfl (rd_move rfl) ?_
  refine ws_l rfl rfl rfl rfl (rd_extract rfl) ?_
  refine ws_l rfl rfl rfl rfl (rd_extract rfl) ?_
  refine ws_l rfl rfl rfl rfl (rd_extract rfl) ?_
  refine ws_l rfl rfl rfl rfl (rd_assign rfl) ?_
  refine ws_l rfl rfl rfl rfl (rd_assign rfl) ?_
  refine ws_l rfl rfl rfl rfl (rd_assign rfl) ?_
  refine ws_nil ?_
  refine qe_then ?_
  refine wc_keep [(2, _), (4, _), (6, _), (7, _), (8, _)] rfl ?_
  refine wc_seq ?_
  refine wc_drawnO mixedT _ (fun _ h => h) (.r 0 (.r 1 (.r 4 (.r 5 (.r 7 (.r 8 (.r 9 (.r 10 (.b4 2 11 12 13 (.b4 3 11 12 13 (.b4 6 11 12 13 (.b3 11 12 13 (.b 12 13 (.seq [(13, .x false), (14, .x false), (15, .x false), (16, .x true)]) (.seq [(12, .x false), (14, .x false), (15, .x false), (16, .x true)])) (.b 11 13 (.seq [(13, .x false), (14, .x false), (15, .x false), (16, .x true)]) (.seq [(11, .x false), (14, .x false), (15, .x false), (16, .x true)])) (.b 11 12 (.seq [(12, .x false), (14, .x false), (15, .x false), (16, .x true)]) (.seq [(11, .x false), (14, .x false), (15, .x false), (16, .x true)]))) (.b3 6 12 13 (.b 12 13 (.seq [(13, .x false), (14, .x false), (15, .x false), (16, .x true)]) (.seq [(12, .x false), (14, .x false), (15, .x false), (16, .x true)])) (.b 6 13 (.seq [(13, .x false), (14, .x false), (15, .x false), (16, .x true)]) (.seq [(6, .x false), (14, .x false), (15, .x false), (16, .x true)])) (.b 6 12 (.seq [(12, .x false), (14, .x false), (15, .x false), (16, .x true)]) (.seq [(6, .x false), (14, .x false), (15, .x false), (16, .x true)]))) (.b3 6 11 13 (.b 11 13 (.seq [(13, .x false), (14, .x false), (15, .x false), (16, .x true)]) (.seq [(11, .x false), (14, .x false), (15, .x false), (16, .x true)])) (.b 6 13 (.seq [(13, .x false), (14, .x false), (15, .x false), (16, .x true)]) (.seq [(6, .x false), (14, .x false), (15, .x false), (16, .x true)])) (.b 6 11 (.seq [(11, .x false), (14, .x false), (15, .x false), (16, .x true)]) (.seq [(6, .x false), (14, .x false), (15, .x false), (16, .x true)]))) (.b3 6 11 12 (.b 11 12 (.seq [(12, .x false), (14, .x false), (15, .x false), (16, .x true)]) (.seq [(11, .x false), (14, .x false), (15, .x false), (16, .x true)])) (.b 6 12 (.seq [(12, .x false), (14, .x false), (15, .x false), (16, .x true)]) (.seq [(6, .x false), (14, .x false), (15, .x false), (16, .x true)])) (.b 6 11 (.seq [(11, .x false), (14, .x false), (15, .x false), (16, .x true)]) (.seq [(6, .x false), (14, .x false), (15, .x false), (16, .x true)])))) (.b3 3 12 13 (.b3 6 12 13 (.b 12 13 (.seq [(13, .x false), (14, .x false), (15, .x false), (16, .x true)]) (.seq [(12, .x false), (14, .x false), (15, .x false), (16, .x true)])) (.b 6 13 (.seq [(13, .x false), (14, .x false), (15, .x false), (16, .x true)]) (.seq [(6, .x false), (14, .x false), (15, .x false), (16, .x true)])) (.b 6 12 (.seq [(12, .x false), (14, .x false), (15, .x false), (16, .x true)]) (.seq [(6, .x false), (14, .x false), (15, .x false), (16, .x true)]))) (.b 3 13 (.b 6 13 (.seq [(13, .x false), (14, .x false), (15, .x false), (16, .x true)]) (.seq [(6, .x false), (14, .x false), (15, .x false), (16, .x true)])) (.seq [(3, .x false), (6, .x false), (14, .x false), (15, .x false), (16, .x true)])) (.b 3 12 (.b 6 12 (.seq [(12, .x false), (14, .x false), (15, .x false), (16, .x true)]) (.seq [(6, .x false), (14, .x false), (15, .x false), (16, .x true)])) (.seq [(3, .x false), (6, .x false), (14, .x false), (15, .x false), (16, .x true)]))) (.b3 3 11 13 (.b3 6 11 13 (.b 11 13 (.seq [(13, .x false), (14, .x false), (15, .x false), (16, .x true)]) (.seq [(11, .x false), (14, .x false), (15, .x false), (16, .x true)])) (.b 6 13 (.seq [(13, .x false), (14, .x false), (15, .x false), (16, .x true)]) (.seq [(6, .x false), (14, .x false), (15, .x false), (16, .x true)])) (.b 6 11 (.seq [(11, .x false), (14, .x false), (15, .x false), (16, .x true)]) (.seq [(6, .x false), (14, .x false), (15, .x false), (16, .x true)]))) (.b 3 13 (.b 6 13 (.seq [(13, .x false), (14, .x false), (15, .x false), (16, .x true)]) (.seq [(6, .x false), (14, .x false), (15, .x false), (16, .x true)])) (.seq [(3, .x false), (6, .x false), (14, .x false), (15, .x false), (16, .x true)])) (.b 3 11 (.b 6 11 (.seq [(11, .x false), (14, .x false), (15, .x false), (16, .x true)]) (.seq [(6, .x false), (14, .x false), (15, .x false), (16, .x true)])) (.seq [(3, .x false), (6, .x false), (14, .x false), (15, .x false), (16, .x true)]))) (.b3 3 11 12 (.b3 6 11 12 (.b 11 12 (.seq [(12, .x false), (14, .x false), (15, .x false), (16, .x true)]) (.seq [(11, .x false), (14, .x false), (15, .x false), (16, .x true)])) (.b 6 12 (.seq [(12, .x false), (14, .x false), (15, .x false), (16, .x true)]) (.seq [(6, .x false), (14, .x false), (15, .x false), (16, .x true)])) (.b 6 11 (.seq [(11, .x false), (14, .x false), (15, .x false), (16, .x true)]) (.seq [(6, .x false), (14, .x false), (15, .x false), (16, .x true)]))) (.b 3 12 (.b 6 12 (.seq [(12, .x false), (14, .x false), (15, .x false), (16, .x true)]) (.seq [(6, .x false), (14, .x false), (15, .x false), (16, .x true)])) (.seq [(3, .x false), (6, .x false), (14, .x false), (15, .x false), (16, .x true)])) (.b 3 11 (.b 6 11 (.seq [(11, .x false), (14, .x false), (15, .x false), (16, .x true)]) (.seq [(6, .x false), (14, .x false), (15, .x false), (16, .x true)])) (.seq [(3, .x false), (6, .x false), (14, .x false), (15, .x false), (16, .x true)])))) (.b3 2 12 13 (.b3 3 12 13 (.b3 6 12 13 (.b 12 13 (.seq [(13, .x false), (14, .x false), (15, .x false), (16, .x true)]) (.seq [(12, .x false), (14, .x false), (15, .x false), (16, .x true)])) (.b 6 13 (.seq [(13, .x false), (14, .x false), (15, .x false), (16, .x true)]) (.seq [(6, .x false), (14, .x false), (15, .x false), (16, .x true)])) (.b 6 12 (.seq [(12, .x false), (14, .x false), (15, .x false), (16, .x true)]) (.seq [(6, .x false), (14, .x false), (15, .x false), (16, .x true)]))) (.b 3 13 (.b 6 13 (.seq [(13, .x false), (14, .x false), (15, .x false), (16, .x true)]) (.seq [(6, .x false), (14, .x false), (15, .x false), (16, .x true)])) (.seq [(3, .x false), (6, .x false), (14, .x false), (15, .x false), (16, .x true)])) (.b 3 12 (.b 6 12 (.seq [(12, .x false), (14, .x false), (15, .x false), (16, .x true)]) (.seq [(6, .x false), (14, .x false), (15, .x false), (16, .x true)])) (.seq [(3, .x false), (6, .x false), (14, .x false), (15, .x false), (16, .x true)]))) (.b 2 13 (.b 3 13 (.b 6 13 (.seq [(13, .x false), (14, .x false), (15, .x false), (16, .x true)]) (.seq [(6, .x false), (14, .x false), (15, .x false), (16, .x true)])) (.seq [(3, .x false), (6, .x false), (14, .x false), (15, .x false), (16, .x true)])) (.seq [(2, .x false), (3, .x false), (6, .x false), (14, .x false), (15, .x false), (16, .x true)])) (.b 2 12 (.b 3 12 (.b 6 12 (.seq [(12, .x false), (14, .x false), (15, .x false), (16, .x true)]) (.seq [(6, .x false), (14, .x false), (15, .x false), (16, .x true)])) (.seq [(3, .x false), (6, .x false), (14, .x false), (15, .x false), (16, .x true)])) (.seq [(2, .x false), (3, .x false), (6, .x false), (14, .x false), (15, .x false), (16, .x true)]))) (.b3 2 11 13 (.b3 3 11 13 (.b3 6 11 13 (.b 11 13 (.seq [(13, .x false), (14, .x false), (15, .x false), (16, .x true)]) (.seq [(11, .x false), (14, .x false), (15, .x false), (16, .x true)])) (.b 6 13 (.seq [(13, .x false), (14, .x false), (15, .x false), (16, .x true)]) (.seq [(6, .x false), (14, .x false), (15, .x false), (16, .x true)])) (.b 6 11 (.seq [(11, .x false), (14, .x false), (15, .x false), (16, .x true)]) (.seq [(6, .x false), (14, .x false), (15, .x false), (16, .x true)]))) (.b 3 13 (.b 6 13 (.seq [(13, .x false), (14, .x false), (15, .x false), (16, .x true)]) (.seq [(6, .x false), (14, .x false), (15, .x false), (16, .x true)])) (.seq [(3, .x false), (6, .x false), (14, .x false), (15, .x false), (16, .x true)])) (.b 3 11 (.b 6 11 (.seq [(11, .x false), (14, .x false), (15, .x false), (16, .x true)]) (.seq [(6, .x false), (14, .x false), (15, .x false), (16, .x true)])) (.seq [(3, .x false), (6, .x false), (14, .x false), (15, .x false), (16, .x true)]))) (.b 2 13 (.b 3 13 (.b 6 13 (.seq [(13, .x false), (14, .x false), (15, .x false), (16, .x true)]) (.seq [(6, .x false), (14, .x false), (15, .x false), (16, .x true)])) (.seq [(3, .x false), (6, .x false), (14, .x false), (15, .x false), (16, .x true)])) (.seq [(2, .x false), (3, .x false), (6, .x false), (14, .x false), (15, .x false), (16, .x true)])) (.b 2 11 (.b 3 11 (.b 6 11 (.seq [(11, .x false), (14, .x false), (15, .x false), (16, .x true)]) (.seq [(6, .x false), (14, .x false), (15, .x false), (16, .x true)])) (.seq [(3, .x false), (6, .x false), (14, .x false), (15, .x false), (16, .x true)])) (.seq [(2, .x false), (3, .x false), (6, .x false), (14, .x false), (15, .x false), (16, .x true)]))) (.b3 2 11 12 (.b3 3 11 12 (.b3 6 11 12 (.b 11 12 (.seq [(12, .x false), (14, .x false), (15, .x false), (16, .x true)]) (.seq [(11, .x false), (14, .x false), (15, .x false), (16, .x true)])) (.b 6 12 (.seq [(12, .x false), (14, .x false), (15, .x false), (16, .x true)]) (.seq [(6, .x false), (14, .x false), (15, .x false), (16, .x true)])) (.b 6 11 (.seq [(11, .x false), (14, .x false), (15, .x false), (16, .x true)]) (.seq [(6, .x false), (14, .x false), (15, .x false), (16, .x true)]))) (.b 3 12 (.b 6 12 (.seq [(12, .x false), (14, .x false), (15, .x false), (16, .x true)]) (.seq [(6, .x false), (14, .x false), (15, .x false), (16, .x true)])) (.seq [(3, .x false), (6, .x false), (14, .x false), (15, .x false), (16, .x true)])) (.b 3 11 (.b 6 11 (.seq [(11, .x false), (14, .x false), (15, .x false), (16, .x true)]) (.seq [(6, .x false), (14, .x false), (15, .x false), (16, .x true)])) (.seq [(3, .x false), (6, .x false), (14, .x false), (15, .x false), (16, .x true)]))) (.b 2 12 (.b 3 12 (.b 6 12 (.seq [(12, .x false), (14, .x false), (15, .x false), (16, .x true)]) (.seq [(6, .x false), (14, .x false), (15, .x false), (16, .x true)])) (.seq [(3, .x false), (6, .x false), (14, .x false), (15, .x false), (16, .x true)])) (.seq [(2, .x false), (3, .x false), (6, .x false), (14, .x false), (15, .x false), (16, .x true)])) (.b 2 11 (.b 3 11 (.b 6 11 (.seq [(11, .x false), (14, .x false), (15, .x false), (16, .x true)]) (.seq [(6, .x false), (14, .x false), (15, .x false), (16, .x true)])) (.seq [(3, .x false), (6, .x false), (14, .x false), (15, .x false), (16, .x true)])) (.seq [(2, .x false), (3, .x false), (6, .x false), (14, .x false), (15, .x false), (16, .x true)])))))))))))) (by kernel_rfl) ?_
  refine od_join (A := Nat × Nat × Nat) (fun x => w.heap.size ≤ x.1 ∧ w.heap.size ≤ x.2.1 ∧ w.heap.size ≤ x.2.2) (fun x => [(2, I number), (4, ptr b4), (7, ptr p), (8, v8), (10, ptr x.1), (11, ptr x.2.1), (12, ptr x.2.2)]) (fun x => ((x.2.2, .cells (idC (id0.set 31 (pl[2] % 16))) 34 (0, 0)) :: (x.2.1, .cells (pubC (pubV pl[1])) 32 (0, 0)) :: (x.1, .cells (idC (ofF (pubV pl[0]))) 29 (0, 0)) :: (ringP p m k :: (ringT m k es c ws d (facts W) ++ (νl ++ ((b4, .cells (idC pl) 23 (0, 0)) :: φ)))))) ?_ ?_
  · rintro ⟨b10, b11, b12⟩ ⟨hb10, hb11, hb12⟩
    refine qe_then ?_
    refine wc_seq ?_
    refine wc_seq ?_
    refine wc_plain [(0, .x true), (1, .x true), (2, .x true), (3, .x true)] (by kernel_rfl) ?_
    have ga3 := idA pl 3 (by omega)
    have ga4 := idA pl 4 (by omega)
    refine ws_l rfl rfl rfl rfl (rd_ixArr 4 rfl rfl Try.underlying23 Try.sizeOf5 ⟨by omega, by omega⟩ rfl) ?_
    refine ws_l rfl rfl rfl rfl (rd_load rfl) ?_
    refine ws_l rfl rfl rfl rfl (rd_rem (((pl[4] % 8 : UInt8).toNat : Nat) : Int) rfl rfl (by omega) (u8_rem pl[4] 8 (by omega))) ?_
    refine ws_lcmp rfl rfl rfl (rfl) (rfl) (rfl) ?_ ?_
    · intro h36
      refine ws_nil ?_
      refine qe_then ?_
      refine wc_true rfl ?_
      refine wc_plain [(0, .x true), (1, .x true), (2, .x true), (3, .x true), (4, .x true), (5, .x true)] (by kernel_rfl) ?_
      refine ws_l rfl rfl rfl rfl (rd_ixArr 3 rfl rfl Try.underlying23 Try.sizeOf5 ⟨by omega, by omega⟩ rfl) ?_
      refine ws_l rfl rfl rfl rfl (rd_load rfl) ?_
      refine ws_l rfl rfl rfl rfl (rd_conv rfl (run_conv_int ((pl[3].toNat : Nat) : Int) Try.underlying5 Try.underlying3 (wrap_i64 _ (by omega) (by have := (pl[3]).toNat_lt; omega)))) ?_
      refine ws_l rfl rfl rfl rfl (rd_rem ((pl[3].toNat % 12 : Nat) : Int) rfl rfl (by omega) (tmodN _ 12)) ?_
      refine ws_l rfl rfl rfl rfl (rd_fieldAddr rfl) ?_
      refine ws_store rfl rfl rfl rfl (by first | exact .inl (by assumption) | exact .inr (by simp)) (fun _ h _ => by first | (cases h; done) | exact List.mem_cons_of_mem _ h | exact List.mem_cons_of_mem _ (List.mem_cons_of_mem _ h) | (simp at h ⊢; simp [h])) ?_
      refine ws_nil ?_
      refine qe_then ?_
      refine wc_keep [(2, _), (4, _), (7, _), (8, _), (10, _), (11, _), (12, _)] rfl ?_
      refine wc_seq ?_
      refine wc_plain [(0, .x true), (1, .x true), (2, .x true), (3, .x true), (4, .x true), (5, .x true)] (by kernel_rfl) ?_
      refine ws_l rfl rfl rfl rfl (rd_ixArr 3 rfl rfl Try.underlying23 Try.sizeOf5 ⟨by omega, by omega⟩ rfl) ?_
      refine ws_l rfl rfl rfl rfl (rd_load rfl) ?_
      refine ws_l rfl rfl rfl rfl (rd_conv rfl (run_conv_int ((pl[3].toNat : Nat) : Int) Try.underlying5 Try.underlying3 (wrap_i64 _ (by omega) (by have := (pl[3]).toNat_lt; omega)))) ?_
      refine ws_l rfl rfl rfl rfl (rd_rem ((pl[3].toNat % 10 : Nat) : Int) rfl rfl (by omega) (tmodN _ 10)) ?_
      refine ws_l rfl rfl rfl rfl (rd_arith (((pl[3].toNat % 10 : Nat) : Int) - 1) rfl rfl rfl (wrap_i64 _ (by omega) (by omega))) ?_
      refine ws_l rfl rfl rfl rfl (rd_assign rfl) ?_
      refine ws_nil ?_
      refine qe_then ?_
      refine wc_keep [(2, _), (7, _), (8, _), (10, _), (11, _), (12, _), (13, _)] rfl ?_
      refine wc_seq ?_
      refine wc_drawn mixedT _ (fun _ h => h) [(0, .r), (1, .r), (2, .r), (3, .r), (5, .r), (6, .r), (8, .r), (9, .r), (10, .r), (11, .r), (12, .r), (13, .r), (4, .x false), (7, .x false), (14, .x true), (15, .x true), (16, .x true)] (by kernel_rfl) ?_
      refine ws_r rfl rfl rfl rfl (rd_move rfl) ?_
      refine ws_r rfl rfl rfl rfl (rd_load rfl) ?_
      refine ws_r rfl rfl rfl rfl (rd_move rfl) ?_
      refine ws_r rfl rfl rfl rfl (rd_load rfl) ?_
      refine ws_r rfl rfl rfl rfl (rd_move rfl) ?_
      refine ws_r rfl rfl rfl rfl (rd_load rfl) ?_
      refine ws_r rfl rfl rfl rfl (rd_move rfl) ?_
      refine ws_r rfl rfl rfl rfl (rd_load rfl) ?_
      refine ws_r rfl rfl rfl rfl (rd_move rfl) ?_
      refine ws_r rfl rfl rfl rfl (rd_load rfl) ?_
      refine ws_r rfl rfl rfl rfl (rd_move rfl) ?_
      refine ws_r rfl rfl rfl rfl (rd_load rfl) ?_
      refine ws_callp rfl rfl rfl rfl rfl (En.go) (fun w hp hn ho => to_ret _ w) ?_
      refine ws_callp rfl rfl rfl rfl rfl (En.go) (fun w hp hn ho => judge_ret p m k es ws c d L W (buildF (ms.take 20)) hL hW hok hl24 _ number _ _ _ w (hp.mono SubH.mem) (SubH.nd hn)) ?_
      refine ws_late rfl ?_
      refine ws_callp rfl rfl rfl rfl rfl (En.go) (fun w hp hn ho => judge_ref v8 νl (buildF (ms.take 20)) hlo.src (by omega) hok.ok _ number _ _ _ w (hp.mono SubH.mem) (SubH.nd hn)) ?_
      refine ws_l rfl rfl rfl rfl (rd_cmp_t rfl rfl rfl (by simp only [cmpP])) ?_
      refine ws_l rfl rfl rfl rfl (rd_assign rfl) ?_
      refine ws_nil ?_
      refine qe_then ?_
      refine wc_keep [(6, _)] rfl ?_
      refine wc_ret ?_
      refine qe_body _ (.inl rfl) (res1 rfl (RV.tmp rfl)) ?_
      exact ret_end fun w hp hn ho => rfl
    · intro h36
      refine ws_nil ?_
      refine qe_then ?_
      refine wc_false rfl ?_
      refine wc_skip ?_
      refine qe_then ?_
      refine wc_seq ?_
      refine wc_plain [(0, .x true), (1, .x true), (2, .x true), (3, .x true), (4, .x true), (5, .x true)] (by kernel_rfl) ?_
      refine ws_l rfl rfl rfl rfl (rd_ixArr 3 rfl rfl Try.underlying23 Try.sizeOf5 ⟨by omega, by omega⟩ rfl) ?_
      refine ws_l rfl rfl rfl rfl (rd_load rfl) ?_
      refine ws_l rfl rfl rfl rfl (rd_conv rfl (run_conv_int ((pl[3].toNat : Nat) : Int) Try.underlying5 Try.underlying3 (wrap_i64 _ (by omega) (by have := (pl[3]).toNat_lt; omega)))) ?_
      refine ws_l rfl rfl rfl rfl (rd_rem ((pl[3].toNat % 10 : Nat) : Int) rfl rfl (by omega) (tmodN _ 10)) ?_
      refine ws_l rfl rfl rfl rfl (rd_arith (((pl[3].toNat % 10 : Nat) : Int) - 1) rfl rfl rfl (wrap_i64 _ (by omega) (by omega))) ?_
      refine ws_l rfl rfl rfl rfl (rd_assign rfl) ?_
      refine ws_nil ?_
      refine qe_then ?_
      refine wc_keep [(2, _), (7, _), (8, _), (10, _), (11, _), (12, _), (13, _)] rfl ?_
      refine wc_seq ?_
      refine wc_drawn mixedT _ (fun _ h => h) [(0, .r), (1, .r), (2, .r), (3, .r), (5, .r), (6, .r), (8, .r), (9, .r), (10, .r), (11, .r), (12, .r), (13, .r), (4, .x false), (7, .x false), (14, .x true), (15, .x true), (16, .x true)] (by kernel_rfl) ?_
      refine ws_r rfl rfl rfl rfl (rd_move rfl) ?_
      refine ws_r rfl rfl rfl rfl (rd_load rfl) ?_
      refine ws_r rfl rfl rfl rfl (rd_move rfl) ?_
      refine ws_r rfl rfl rfl rfl (rd_load rfl) ?_
      refine ws_r rfl rfl rfl rfl (rd_move rfl) ?_
      refine ws_r rfl rfl rfl rfl (rd_load rfl) ?_
      refine ws_r rfl rfl rfl rfl (rd_move rfl) ?_
      refine ws_r rfl rfl rfl rfl (rd_load rfl) ?_
      refine ws_r rfl rfl rfl rfl (rd_move rfl) ?_
      refine ws_r rfl rfl rfl rfl (rd_load rfl) ?_
      refine ws_r rfl rfl rfl rfl (rd_move rfl) ?_
      refine ws_r rfl rfl rfl rfl (rd_load rfl) ?_
      refine ws_callp rfl rfl rfl rfl rfl (En.go) (fun w hp hn ho => to_ret _ w) ?_
      refine ws_callp rfl rfl rfl rfl rfl (En.go) (fun w hp hn ho => judge_ret p m k es ws c d L W (buildF (ms.take 20)) hL hW hok hl24 _ number _ _ _ w (hp.mono SubH.mem) (SubH.nd hn)) ?_
      refine ws_late rfl ?_
      refine ws_callp rfl rfl rfl rfl rfl (En.go) (fun w hp hn ho => judge_ref v8 νl (buildF (ms.take 20)) hlo.src (by omega) hok.ok _ number _ _ _ w (hp.mono SubH.mem) (SubH.nd hn)) ?_
      refine ws_l rfl rfl rfl rfl (rd_cmp_t rfl rfl rfl (by simp only [cmpP])) ?_
      refine ws_l rfl rfl rfl rfl (rd_assign rfl) ?_
      refine ws_nil ?_
      refine qe_then ?_
      refine wc_keep [(6, _)] rfl ?_
      refine wc_ret ?_
      refine qe_body _ (.inl rfl) (res1 rfl (RV.tmp rfl)) ?_
      exact ret_end fun w hp hn ho => rfl
  · intro hrest
    refine od_r ?_
    have ga0 := idA pl 0 (by omega)
    have ga1 := idA pl 1 (by omega)
    have ga2 := idA pl 2 (by omega)
    refine ws_r rfl rfl rfl rfl (rd_ixArr 0 rfl rfl Try.underlying23 Try.sizeOf5 ⟨by omega, by omega⟩ rfl) ?_
    refine od_go ?_
    refine od_r ?_
    refine ws_r rfl rfl rfl rfl (rd_load rfl) ?_
    refine od_go ?_
    refine od_r ?_
    refine ws_r rfl rfl rfl rfl (rd_ixArr 1 rfl rfl Try.underlying23 Try.sizeOf5 ⟨by omega, by omega⟩ rfl) ?_
    refine od_go ?_
    refine od_r ?_
    refine ws_r rfl rfl rfl rfl (rd_load rfl) ?_
    refine od_go ?_
    refine od_r ?_
    refine ws_r rfl rfl rfl rfl (rd_ixArr 2 rfl rfl Try.underlying23 Try.sizeOf5 ⟨by omega, by omega⟩ rfl) ?_
    refine od_go ?_
    refine od_r ?_
    refine ws_r rfl rfl rfl rfl (rd_load rfl) ?_
    refine od_go ?_
    refine od_r ?_
    refine ws_r rfl rfl rfl rfl (rd_rem (((pl[2] % 16 : UInt8).toNat : Nat) : Int) rfl rfl (by omega) (u8_rem pl[2] 16 (by omega))) ?_
    refine od_go ?_
    refine od_r ?_
    refine ws_r rfl rfl rfl rfl (rd_build rfl) ?_
    refine od_go ?_
    refine od_b4 ?_ ?_ ?_ ?_
    ·
      refine ws_callp rfl rfl rfl rfl rfl (En.go) (fun w hp hn ho => public_ret _ w) ?_
      refine od_go ?_
      refine od_b4 ?_ ?_ ?_ ?_
      ·
        refine ws_callp rfl rfl rfl rfl rfl (En.go) (fun w hp hn ho => of_ref _ w) ?_
        refine od_go ?_
        refine od_b4 ?_ ?_ ?_ ?_
        ·
          refine ws_callp rfl rfl rfl rfl rfl (En.go) (fun w hp hn ho => public_ret _ w) ?_
          refine od_go ?_
          refine od_b3 ?_ ?_ ?_
          ·
            refine ws_alloc rfl rfl rfl ?_
            intro b10 hb10
            refine od_go ?_
            refine od_b ?_ ?_
            ·
              refine ws_alloc rfl rfl rfl ?_
              intro b11 hb11
              refine od_go ?_
              refine od_seq ?_
              refine ws_alloc rfl rfl rfl ?_
              intro b12 hb12
              refine ws_store rfl rfl rfl rfl (by first | exact .inl (by assumption) | exact .inr (by simp)) (fun _ h _ => by first | (cases h; done) | exact List.mem_cons_of_mem _ h | exact List.mem_cons_of_mem _ (List.mem_cons_of_mem _ h) | (simp at h ⊢; simp [h])) ?_
              refine ws_store rfl rfl rfl rfl (by first | exact .inl (by assumption) | exact .inr (by simp)) (fun _ h _ => by first | (cases h; done) | exact List.mem_cons_of_mem _ h | exact List.mem_cons_of_mem _ (List.mem_cons_of_mem _ h) | (simp at h ⊢; simp [h])) ?_
              refine ws_late rfl ?_
              refine ws_store rfl rfl rfl rfl (by first | exact .inl (by assumption) | exact .inr (by simp)) (fun _ h _ => by first | (cases h; done) | exact List.mem_cons_of_mem _ h | exact List.mem_cons_of_mem _ (List.mem_cons_of_mem _ h) | (simp at h ⊢; simp [h])) ?_
              refine ws_nil ?_
              exact qe_sub (hrest (b10, b11, b12) ⟨hb10, hb11, hb12⟩) rfl
            ·
              refine ws_alloc rfl rfl rfl ?_
              intro b12 hb12
              refine od_go ?_
              refine od_seq ?_
              refine ws_alloc rfl rfl rfl ?_
              intro b11 hb11
              refine ws_store rfl rfl rfl rfl (by first | exact .inl (by assumption) | exact .inr (by simp)) (fun _ h _ => by first | (cases h; done) | exact List.mem_cons_of_mem _ h | exact List.mem_cons_of_mem _ (List.mem_cons_of_mem _ h) | (simp at h ⊢; simp [h])) ?_
              refine ws_store rfl rfl rfl rfl (by first | exact .inl (by assumption) | exact .inr (by simp)) (fun _ h _ => by first | (cases h; done) | exact List.mem_cons_of_mem _ h | exact List.mem_cons_of_mem _ (List.mem_cons_of_mem _ h) | (simp at h ⊢; simp [h])) ?_
              refine ws_late rfl ?_
              refine ws_store rfl rfl rfl rfl (by first | exact .inl (by assumption) | exact .inr (by simp)) (fun _ h _ => by first | (cases h; done) | exact List.mem_cons_of_mem _ h | exact List.mem_cons_of_mem _ (List.mem_cons_of_mem _ h) | (simp at h ⊢; simp [h])) ?_
              refine ws_nil ?_
              exact qe_sub (hrest (b10, b11, b12) ⟨hb10, hb11, hb12⟩) rfl
          ·
            refine ws_alloc rfl rfl rfl ?_
            intro b11 hb11
            refine od_go ?_
            refine od_b ?_ ?_
            ·
              refine ws_alloc rfl rfl rfl ?_
              intro b10 hb10
              refine od_go ?_
              refine od_seq ?_
              refine ws_alloc rfl rfl rfl ?_
              intro b12 hb12
              refine ws_store rfl rfl rfl rfl (by first | exact .inl (by assumption) | exact .inr (by simp)) (fun _ h _ => by first | (cases h; done) | exact List.mem_cons_of_mem _ h | exact List.mem_cons_of_mem _ (List.mem_cons_of_mem _ h) | (simp at h ⊢; simp [h])) ?_
              refine ws_store rfl rfl rfl rfl (by first | exact .inl (by assumption) | exact .inr (by simp)) (fun _ h _ => by first | (cases h; done) | exact List.mem_cons_of_mem _ h | exact List.mem_cons_of_mem _ (List.mem_cons_of_mem _ h) | (simp at h ⊢; simp [h])) ?_
              refine ws_late rfl ?_
              refine ws_store rfl rfl rfl rfl (by first | exact .inl (by assumption) | exact .inr (by simp)) (fun _ h _ => by first | (cases h; done) | exact List.mem_cons_of_mem _ h | exact List.mem_cons_of_mem _ (List.mem_cons_of_mem _ h) | (simp at h ⊢; simp [h])) ?_
              refine ws_nil ?_
              exact qe_sub (hrest (b10, b11, b12) ⟨hb10, hb11, hb12⟩) rfl
            ·
              refine ws_alloc rfl rfl rfl ?_
              intro b12 hb12
              refine od_go ?_
              refine od_seq ?_
              refine ws_alloc rfl rfl rfl ?_
              intro b10 hb10
              refine ws_store rfl rfl rfl rfl (by first | exact .inl (by assumption) | exact .inr (by simp)) (fun _ h _ => by first | (cases h; done) | exact List.mem_cons_of_mem _ h | exact List.mem_cons_of_mem _ (List.mem_cons_of_mem _ h) | (simp at h ⊢; simp [h])) ?_
              refine ws_store rfl rfl rfl rfl (by first | exact .inl (by assumption) | exact .inr (by simp)) (fun _ h _ => by first | (cases h; done) | exact List.mem_cons_of_mem _ h | exact List.mem_cons_of_mem _ (List.mem_cons_of_mem _ h) | (simp at h ⊢; simp [h])) ?_
              refine ws_late rfl ?_
              refine ws_store rfl rfl rfl rfl (by first | exact .inl (by assumption) | exact .inr (by simp)) (fun _ h _ => by first | (cases h; done) | exact List.mem_cons_of_mem _ h | exact List.mem_cons_of_mem _ (List.mem_cons_of_mem _ h) | (simp at h ⊢; simp [h])) ?_
              refine ws_nil ?_
              exact qe_sub (hrest (b10, b11, b12) ⟨hb10, hb11, hb12⟩) rfl
          ·
            refine ws_alloc rfl rfl rfl ?_
            intro b12 hb12
            refine od_go ?_
            refine od_b ?_ ?_
            ·
              refine ws_alloc rfl rfl rfl ?_
              intro b10 hb10
              refine od_go ?_
              refine od_seq ?_
              refine ws_alloc rfl rfl rfl ?_
              intro b11 hb11
              refine ws_store rfl rfl rfl rfl (by first | exact .inl (by assumption) | exact .inr (by simp)) (fun _ h _ => by first | (cases h; done) | exact List.mem_cons_of_mem _ h | exact List.mem_cons_of_mem _ (List.mem_cons_of_mem _ h) | (simp at h ⊢; simp [h])) ?_
              refine ws_store rfl rfl rfl rfl (by first | exact .inl (by assumption) | exact .inr (by simp)) (fun _ h _ => by first | (cases h; done) | exact List.mem_cons_of_mem _ h | exact List.mem_cons_of_mem _ (List.mem_cons_of_mem _ h) | (simp at h ⊢; simp [h])) ?_
              refine ws_late rfl ?_
              refine ws_store rfl rfl rfl rfl (by first | exact .inl (by assumption) | exact .inr (by simp)) (fun _ h _ => by first | (cases h; done) | exact List.mem_cons_of_mem _ h | exact List.mem_cons_of_mem _ (List.mem_cons_of_mem _ h) | (simp at h ⊢; simp [h])) ?_
              refine ws_nil ?_
              exact qe_sub (hrest (b10, b11, b12) ⟨hb10, hb11, hb12⟩) rfl
            ·
              refine ws_alloc rfl rfl rfl ?_
              intro b11 hb11
              refine od_go ?_
              refine od_seq ?_
              refine ws_alloc rfl rfl rfl ?_
              intro b10 hb10
              refine ws_store rfl rfl rfl rfl (by first | exact .inl (by assumption) | exact .inr (by simp)) (fun _ h _ => by first | (cases h; done) | exact List.mem_cons_of_mem _ h | exact List.mem_cons_of_mem _ (List.mem_cons_of_mem _ h) | (simp at h ⊢; simp [h])) ?_
              refine ws_store rfl rfl rfl rfl (by first | exact .inl (by assumption) | exact .inr (by simp)) (fun _ h _ => by first | (cases h; done) | exact List.mem_cons_of_mem _ h | exact List.mem_cons_of_mem _ (List.mem_cons_of_mem _ h) | (simp at h ⊢; simp [h])) ?_
              refine ws_late rfl ?_
              refine ws_store rfl rfl rfl rfl (by first | exact .inl (by assumption) | exact .inr (by simp)) (fun _ h _ => by first | (cases h; done) | exact List.mem_cons_of_mem _ h | exact List.mem_cons_of_mem _ (List.mem_cons_of_mem _ h) | (simp at h ⊢; simp [h])) ?_
              refine ws_nil ?_
              exact qe_sub (hrest (b10, b11, b12) ⟨hb10, hb11, hb12⟩) rfl
        ·
          refine ws_alloc rfl rfl rfl ?_
          intro b10 hb10
          refine od_go ?_
          refine od_b3 ?_ ?_ ?_
          ·
            refine ws_callp rfl rfl rfl rfl rfl (En.go) (fun w hp hn ho => public_ret _ w) ?_
            refine od_go ?_
            refine od_b ?_ ?_
            ·
              refine ws_alloc rfl rfl rfl ?_
              intro b11 hb11
              refine od_go ?_
              refine od_seq ?_
              refine ws_alloc rfl rfl rfl ?_
              intro b12 hb12
              refine ws_store rfl rfl rfl rfl (by first | exact .inl (by assumption) | exact .inr (by simp)) (fun _ h _ => by first | (cases h; done) | exact List.mem_cons_of_mem _ h | exact List.mem_cons_of_mem _ (List.mem_cons_of_mem _ h) | (simp at h ⊢; simp [h])) ?_
              refine ws_store rfl rfl rfl rfl (by first | exact .inl (by assumption) | exact .inr (by simp)) (fun _ h _ => by first | (cases h; done) | exact List.mem_cons_of_mem _ h | exact List.mem_cons_of_mem _ (List.mem_cons_of_mem _ h) | (simp at h ⊢; simp [h])) ?_
              refine ws_late rfl ?_
              refine ws_store rfl rfl rfl rfl (by first | exact .inl (by assumption) | exact .inr (by simp)) (fun _ h _ => by first | (cases h; done) | exact List.mem_cons_of_mem _ h | exact List.mem_cons_of_mem _ (List.mem_cons_of_mem _ h) | (simp at h ⊢; simp [h])) ?_
              refine ws_nil ?_
              exact qe_sub (hrest (b10, b11, b12) ⟨hb10, hb11, hb12⟩) rfl
            ·
              refine ws_alloc rfl rfl rfl ?_
              intro b12 hb12
              refine od_go ?_
              refine od_seq ?_
              refine ws_alloc rfl rfl rfl ?_
              intro b11 hb11
              refine ws_store rfl rfl rfl rfl (by first | exact .inl (by assumption) | exact .inr (by simp)) (fun _ h _ => by first | (cases h; done) | exact List.mem_cons_of_mem _ h | exact List.mem_cons_of_mem _ (List.mem_cons_of_mem _ h) | (simp at h ⊢; simp [h])) ?_
              refine ws_store rfl rfl rfl rfl (by first | exact .inl (by assumption) | exact .inr (by simp)) (fun _ h _ => by first | (cases h; done) | exact List.mem_cons_of_mem _ h | exact List.mem_cons_of_mem _ (List.mem_cons_of_mem _ h) | (simp at h ⊢; simp [h])) ?_
              refine ws_late rfl ?_
              refine ws_store rfl rfl rfl rfl (by first | exact .inl (by assumption) | exact .inr (by simp)) (fun _ h _ => by first | (cases h; done) | exact List.mem_cons_of_mem _ h | exact List.mem_cons_of_mem _ (List.mem_cons_of_mem _ h) | (simp at h ⊢; simp [h])) ?_
              refine ws_nil ?_
              exact qe_sub (hrest (b10, b11, b12) ⟨hb10, hb11, hb12⟩) rfl
          ·
            refine ws_alloc rfl rfl rfl ?_
            intro b11 hb11
            refine od_go ?_
            refine od_b ?_ ?_
            ·
              refine ws_callp rfl rfl rfl rfl rfl (En.go) (fun w hp hn ho => public_ret _ w) ?_
              refine od_go ?_
              refine od_seq ?_
              refine ws_alloc rfl rfl rfl ?_
              intro b12 hb12
              refine ws_store rfl rfl rfl rfl (by first | exact .inl (by assumption) | exact .inr (by simp)) (fun _ h _ => by first | (cases h; done) | exact List.mem_cons_of_mem _ h | exact List.mem_cons_of_mem _ (List.mem_cons_of_mem _ h) | (simp at h ⊢; simp [h])) ?_
              refine ws_store rfl rfl rfl rfl (by first | exact .inl (by assumption) | exact .inr (by simp)) (fun _ h _ => by first | (cases h; done) | exact List.mem_cons_of_mem _ h | exact List.mem_cons_of_mem _ (List.mem_cons_of_mem _ h) | (simp at h ⊢; simp [h])) ?_
              refine ws_late rfl ?_
              refine ws_store rfl rfl rfl rfl (by first | exact .inl (by assumption) | exact .inr (by simp)) (fun _ h _ => by first | (cases h; done) | exact List.mem_cons_of_mem _ h | exact List.mem_cons_of_mem _ (List.mem_cons_of_mem _ h) | (simp at h ⊢; simp [h])) ?_
              refine ws_nil ?_
              exact qe_sub (hrest (b10, b11, b12) ⟨hb10, hb11, hb12⟩) rfl
            ·
              refine ws_alloc rfl rfl rfl ?_
              intro b12 hb12
              refine od_go ?_
              refine od_seq ?_
              refine ws_callp rfl rfl rfl rfl rfl (En.go) (fun w hp hn ho => public_ret _ w) ?_
              refine ws_store rfl rfl rfl rfl (by first | exact .inl (by assumption) | exact .inr (by simp)) (fun _ h _ => by first | (cases h; done) | exact List.mem_cons_of_mem _ h | exact List.mem_cons_of_mem _ (List.mem_cons_of_mem _ h) | (simp at h ⊢; simp [h])) ?_
              refine ws_store rfl rfl rfl rfl (by first | exact .inl (by assumption) | exact .inr (by simp)) (fun _ h _ => by first | (cases h; done) | exact List.mem_cons_of_mem _ h | exact List.mem_cons_of_mem _ (List.mem_cons_of_mem _ h) | (simp at h ⊢; simp [h])) ?_
              refine ws_late rfl ?_
              refine ws_store rfl rfl rfl rfl (by first | exact .inl (by assumption) | exact .inr (by simp)) (fun _ h _ => by first | (cases h; done) | exact List.mem_cons_of_mem _ h | exact List.mem_cons_of_mem _ (List.mem_cons_of_mem _ h) | (simp at h ⊢; simp [h])) ?_
              refine ws_nil ?_
              exact qe_sub (hrest (b10, b11, b12) ⟨hb10, hb11, hb12⟩) rfl
          ·
            refine ws_alloc rfl rfl rfl ?_
            intro b12 hb12
            refine od_go ?_
            refine od_b ?_ ?_
            ·
              refine ws_callp rfl rfl rfl rfl rfl (En.go) (fun w hp hn ho => public_ret _ w) ?_
              refine od_go ?_
              refine od_seq ?_
              refine ws_alloc rfl rfl rfl ?_
              intro b11 hb11
              refine ws_store rfl rfl rfl rfl (by first | exact .inl (by assumption) | exact .inr (by simp)) (fun _ h _ => by first | (cases h; done) | exact List.mem_cons_of_mem _ h | exact List.mem_cons_of_mem _ (List.mem_cons_of_mem _ h) | (simp at h ⊢; simp [h])) ?_
              refine ws_store rfl rfl rfl rfl (by first | exact .inl (by assumption) | exact .inr (by simp)) (fun _ h _ => by first | (cases h; done) | exact List.mem_cons_of_mem _ h | exact List.mem_cons_of_mem _ (List.mem_cons_of_mem _ h) | (simp at h ⊢; simp [h])) ?_
              refine ws_late rfl ?_
              refine ws_store rfl rfl rfl rfl (by first | exact .inl (by assumption) | exact .inr (by simp)) (fun _ h _ => by first | (cases h; done) | exact List.mem_cons_of_mem _ h | exact List.mem_cons_of_mem _ (List.mem_cons_of_mem _ h) | (simp at h ⊢; simp [h])) ?_
              refine ws_nil ?_
              exact qe_sub (hrest (b10, b11, b12) ⟨hb10, hb11, hb12⟩) rfl
            ·
              refine ws_alloc rfl rfl rfl ?_
              intro b11 hb11
              refine od_go ?_
              refine od_seq ?_
              refine ws_callp rfl rfl rfl rfl rfl (En.go) (fun w hp hn ho => public_ret _ w) ?_
              refine ws_store rfl rfl rfl rfl (by first | exact .inl (by assumption) | exact .inr (by simp)) (fun _ h _ => by first | (cases h; done) | exact List.mem_cons_of_mem _ h | exact List.mem_cons_of_mem _ (List.mem_cons_of_mem _ h) | (simp at h ⊢; simp [h])) ?_
              refine ws_store rfl rfl rfl rfl (by first | exact .inl (by assumption) | exact .inr (by simp)) (fun _ h _ => by first | (cases h; done) | exact List.mem_cons_of_mem _ h | exact List.mem_cons_of_mem _ (List.mem_cons_of_mem _ h) | (simp at h ⊢; simp [h])) ?_
              refine ws_late rfl ?_
              refine ws_store rfl rfl rfl rfl (by first | exact .inl (by assumption) | exact .inr (by simp)) (fun _ h _ => by first | (cases h; done) | exact List.mem_cons_of_mem _ h | exact List.mem_cons_of_mem _ (List.mem_cons_of_mem _ h) | (simp at h ⊢; simp [h])) ?_
              refine ws_nil ?_
              exact qe_sub (hrest (b10, b11, b12) ⟨hb10, hb11, hb12⟩) rfl
        ·
          refine ws_alloc rfl rfl rfl ?_
          intro b11 hb11
          refine od_go ?_
          refine od_b3 ?_ ?_ ?_
          ·
            refine ws_callp rfl rfl rfl rfl rfl (En.go) (fun w hp hn ho => public_ret _ w) ?_
            refine od_go ?_
            refine od_b ?_ ?_
            ·
              refine ws_alloc rfl rfl rfl ?_
              intro b10 hb10
              refine od_go ?_
              refine od_seq ?_
              refine ws_alloc rfl rfl rfl ?_
              intro b12 hb12
              refine ws_store rfl rfl rfl rfl (by first | exact .inl (by assumption) | exact .inr (by simp)) (fun _ h _ => by first | (cases h; done) | exact List.mem_cons_of_mem _ h | exact List.mem_cons_of_mem _ (List.mem_cons_of_mem _ h) | (simp at h ⊢; simp [h])) ?_
              refine ws_store rfl rfl rfl rfl (by first | exact .inl (by assumption) | exact .inr (by simp)) (fun _ h _ => by first | (cases h; done) | exact List.mem_cons_of_mem _ h | exact List.mem_cons_of_mem _ (List.mem_cons_of_mem _ h) | (simp at h ⊢; simp [h])) ?_
              refine ws_late rfl ?_
              refine ws_store rfl rfl rfl rfl (by first | exact .inl (by assumption) | exact .inr (by simp)) (fun _ h _ => by first | (cases h; done) | exact List.mem_cons_of_mem _ h | exact List.mem_cons_of_mem _ (List.mem_cons_of_mem _ h) | (simp at h ⊢; simp [h])) ?_
              refine ws_nil ?_
              exact qe_sub (hrest (b10, b11, b12) ⟨hb10, hb11, hb12⟩) rfl
            ·
              refine ws_alloc rfl rfl rfl ?_
              intro b12 hb12
              refine od_go ?_
              refine od_seq ?_
              refine ws_alloc rfl rfl rfl ?_
              intro b10 hb10
              refine ws_store rfl rfl rfl rfl (by first | exact .inl (by assumption) | exact .inr (by simp)) (fun _ h _ => by first | (cases h; done) | exact List.mem_cons_of_mem _ h | exact List.mem_cons_of_mem _ (List.mem_cons_of_mem _ h) | (simp at h ⊢; simp [h])) ?_
              refine ws_store rfl rfl rfl rfl (by first | exact .inl (by assumption) | exact .inr (by simp)) (fun _ h _ => by first | (cases h; done) | exact List.mem_cons_of_mem _ h | exact List.mem_cons_of_mem _ (List.mem_cons_of_mem _ h) | (simp at h ⊢; simp [h])) ?_
              refine ws_late rfl ?_
              refine ws_store rfl rfl rfl rfl (by first | exact .inl (by assumption) | exact .inr (by simp)) (fun _ h _ => by first | (cases h; done) | exact List.mem_cons_of_mem _ h | exact List.mem_cons_of_mem _ (List.mem_cons_of_mem _ h) | (simp at h ⊢; simp [h])) ?_
              refine ws_nil ?_
              exact qe_sub (hrest (b10, b11, b12) ⟨hb10, hb11, hb12⟩) rfl
          ·
            refine ws_alloc rfl rfl rfl ?_
            intro b10 hb10
            refine od_go ?_
            refine od_b ?_ ?_
            ·
              refine ws_callp rfl rfl rfl rfl rfl (En.go) (fun w hp hn ho => public_ret _ w) ?_
              refine od_go ?_
              refine od_seq ?_
              refine ws_alloc rfl rfl rfl ?_
              intro b12 hb12
              refine ws_store rfl rfl rfl rfl (by first | exact .inl (by assumption) | exact .inr (by simp)) (fun _ h _ => by first | (cases h; done) | exact List.mem_cons_of_mem _ h | exact List.mem_cons_of_mem _ (List.mem_cons_of_mem _ h) | (simp at h ⊢; simp [h])) ?_
              refine ws_store rfl rfl rfl rfl (by first | exact .inl (by assumption) | exact .inr (by simp)) (fun _ h _ => by first | (cases h; done) | exact List.mem_cons_of_mem _ h | exact List.mem_cons_of_mem _ (List.mem_cons_of_mem _ h) | (simp at h ⊢; simp [h])) ?_
              refine ws_late rfl ?_
              refine ws_store rfl rfl rfl rfl (by first | exact .inl (by assumption) | exact .inr (by simp)) (fun _ h _ => by first | (cases h; done) | exact List.mem_cons_of_mem _ h | exact List.mem_cons_of_mem _ (List.mem_cons_of_mem _ h) | (simp at h ⊢; simp [h])) ?_
              refine ws_nil ?_
              exact qe_sub (hrest (b10, b11, b12) ⟨hb10, hb11, hb12⟩) rfl
            ·
              refine ws_alloc rfl rfl rfl ?_
              intro b12 hb12
              refine od_go ?_
              refine od_seq ?_
              refine ws_callp rfl rfl rfl rfl rfl (En.go) (fun w hp hn ho => public_ret _ w) ?_
              refine ws_store rfl rfl rfl rfl (by first | exact .inl (by assumption) | exact .inr (by simp)) (fun _ h _ => by first | (cases h; done) | exact List.mem_cons_of_mem _ h | exact List.mem_cons_of_mem _ (List.mem_cons_of_mem _ h) | (simp at h ⊢; simp [h])) ?_
              refine ws_store rfl rfl rfl rfl (by first | exact .inl (by assumption) | exact .inr (by simp)) (fun _ h _ => by first | (cases h; done) | exact List.mem_cons_of_mem _ h | exact List.mem_cons_of_mem _ (List.mem_cons_of_mem _ h) | (simp at h ⊢; simp [h])) ?_
              refine ws_late rfl ?_
              refine ws_store rfl rfl rfl rfl (by first | exact .inl (by assumption) | exact .inr (by simp)) (fun _ h _ => by first | (cases h; done) | exact List.mem_cons_of_mem _ h | exact List.mem_cons_of_mem _ (List.mem_cons_of_mem _ h) | (simp at h ⊢; simp [h])) ?_
              refine ws_nil ?_
              exact qe_sub (hrest (b10, b11, b12) ⟨hb10, hb11, hb12⟩) rfl
          ·
            refine ws_alloc rfl rfl rfl ?_
            intro b12 hb12
            refine od_go ?_
            refine od_b ?_ ?_
            ·
              refine ws_callp rfl rfl rfl rfl rfl (En.go) (fun w hp hn ho => public_ret _ w) ?_
              refine od_go ?_
              refine od_seq ?_
              refine ws_alloc rfl rfl rfl ?_
              intro b10 hb10
              refine ws_store rfl rfl rfl rfl (by first | exact .inl (by assumption) | exact .inr (by simp)) (fun _ h _ => by first | (cases h; done) | exact List.mem_cons_of_mem _ h | exact List.mem_cons_of_mem _ (List.mem_cons_of_mem _ h) | (simp at h ⊢; simp [h])) ?_
              refine ws_store rfl rfl rfl rfl (by first | exact .inl (by assumption) | exact .inr (by simp)) (fun _ h _ => by first | (cases h; done) | exact List.mem_cons_of_mem _ h | exact List.mem_cons_of_mem _ (List.mem_cons_of_mem _ h) | (simp at h ⊢; simp [h])) ?_
              refine ws_late rfl ?_
              refine ws_store rfl rfl rfl rfl (by first | exact .inl (by assumption) | exact .inr (by simp)) (fun _ h _ => by first | (cases h; done) | exact List.mem_cons_of_mem _ h | exact List.mem_cons_of_mem _ (List.mem_cons_of_mem _ h) | (simp at h ⊢; simp [h])) ?_
              refine ws_nil ?_
              exact qe_sub (hrest (b10, b11, b12) ⟨hb10, hb11, hb12⟩) rfl
            ·
              refine ws_alloc rfl rfl rfl ?_
              intro b10 hb10
              refine od_go ?_
              refine od_seq ?_
              refine ws_callp rfl rfl rfl rfl rfl (En.go) (fun w hp hn ho => public_ret _ w) ?_
              refine ws_store rfl rfl rfl rfl (by first | exact .inl (by assumption) | exact .inr (by simp)) (fun _ h _ => by first | (cases h; done) | exact List.mem_cons_of_mem _ h | exact List.mem_cons_of_mem _ (List.mem_cons_of_mem _ h) | (simp at h ⊢; simp [h])) ?_
              refine ws_store rfl rfl rfl rfl (by first | exact .inl (by assumption) | exact .inr (by simp)) (fun _ h _ => by first | (cases h; done) | exact List.mem_cons_of_mem _ h | exact List.mem_cons_of_mem _ (List.mem_cons_of_mem _ h) | (simp at h ⊢; simp [h])) ?_
              refine ws_late rfl ?_
              refine ws_store rfl rfl rfl rfl (by first | exact .inl (by assumption) | exact .inr (by simp)) (fun _ h _ => by first | (cases h; done) | exact List.mem_cons_of_mem _ h | exact List.mem_cons_of_mem _ (List.mem_cons_of_mem _ h) | (simp at h ⊢; simp [h])) ?_
              refine ws_nil ?_
              exact qe_sub (hrest (b10, b11, b12) ⟨hb10, hb11, hb12⟩) rfl
        ·
          refine ws_alloc rfl rfl rfl ?_
          intro b12 hb12
          refine od_go ?_
          refine od_b3 ?_ ?_ ?_
          ·
            refine ws_callp rfl rfl rfl rfl rfl (En.go) (fun w hp hn ho => public_ret _ w) ?_
            refine od_go ?_
            refine od_b ?_ ?_
            ·
              refine ws_alloc rfl rfl rfl ?_
              intro b10 hb10
              refine od_go ?_
              refine od_seq ?_
              refine ws_alloc rfl rfl rfl ?_
              intro b11 hb11
              refine ws_store rfl rfl rfl rfl (by first | exact .inl (by assumption) | exact .inr (by simp)) (fun _ h _ => by first | (cases h; done) | exact List.mem_cons_of_mem _ h | exact List.mem_cons_of_mem _ (List.mem_cons_of_mem _ h) | (simp at h ⊢; simp [h])) ?_
              refine ws_store rfl rfl rfl rfl (by first | exact .inl (by assumption) | exact .inr (by simp)) (fun _ h _ => by first | (cases h; done) | exact List.mem_cons_of_mem _ h | exact List.mem_cons_of_mem _ (List.mem_cons_of_mem _ h) | (simp at h ⊢; simp [h])) ?_
              refine ws_late rfl ?_
              refine ws_store rfl rfl rfl rfl (by first | exact .inl (by assumption) | exact .inr (by simp)) (fun _ h _ => by first | (cases h; done) | exact List.mem_cons_of_mem _ h | exact List.mem_cons_of_mem _ (List.mem_cons_of_mem _ h) | (simp at h ⊢; simp [h])) ?_
              refine ws_nil ?_
              exact qe_sub (hrest (b10, b11, b12) ⟨hb10, hb11, hb12⟩) rfl
            ·
              refine ws_alloc rfl rfl rfl ?_
              intro b11 hb11
              refine od_go ?_
              refine od_seq ?_
              refine ws_alloc rfl rfl rfl ?_
              intro b10 hb10
              refine ws_store rfl rfl rfl rfl (by first | exact .inl (by assumption) | exact .inr (by simp)) (fun _ h _ => by first | (cases h; done) | exact List.mem_cons_of_mem _ h | exact List.mem_cons_of_mem _ (List.mem_cons_of_mem _ h) | (simp at h ⊢; simp [h])) ?_
              refine ws_store rfl rfl rfl rfl (by first | exact .inl (by assumption) | exact .inr (by simp)) (fun _ h _ => by first | (cases h; done) | exact List.mem_cons_of_mem _ h | exact List.mem_cons_of_mem _ (List.mem_cons_of_mem _ h) | (simp at h ⊢; simp [h])) ?_
              refine ws_late rfl ?_
              refine ws_store rfl rfl rfl rfl (by first | exact .inl (by assumption) | exact .inr (by simp)) (fun _ h _ => by first | (cases h; done) | exact List.mem_cons_of_mem _ h | exact List.mem_cons_of_mem _ (List.mem_cons_of_mem _ h) | (simp at h ⊢; simp [h])) ?_
              refine ws_nil ?_
              exact qe_sub (hrest (b10, b11, b12) ⟨hb10, hb11, hb12⟩) rfl
          ·
            refine ws_alloc rfl rfl rfl ?_
            intro b10 hb10
            refine od_go ?_
            refine od_b ?_ ?_
            ·
              refine ws_callp rfl rfl rfl rfl rfl (En.go) (fun w hp hn ho => public_ret _ w) ?_
              refine od_go ?_
              refine od_seq ?_
              refine ws_alloc rfl rfl rfl ?_
              intro b11 hb11
              refine ws_store rfl rfl rfl rfl (by first | exact .inl (by assumption) | exact .inr (by simp)) (fun _ h _ => by first | (cases h; done) | exact List.mem_cons_of_mem _ h | exact List.mem_cons_of_mem _ (List.mem_cons_of_mem _ h) | (simp at h ⊢; simp [h])) ?_
              refine ws_store rfl rfl rfl rfl (by first | exact .inl (by assumption) | exact .inr (by simp)) (fun _ h _ => by first | (cases h; done) | exact List.mem_cons_of_mem _ h | exact List.mem_cons_of_mem _ (List.mem_cons_of_mem _ h) | (simp at h ⊢; simp [h])) ?_
              refine ws_late rfl ?_
              refine ws_store rfl rfl rfl rfl (by first | exact .inl (by assumption) | exact .inr (by simp)) (fun _ h _ => by first | (cases h; done) | exact List.mem_cons_of_mem _ h | exact List.mem_cons_of_mem _ (List.mem_cons_of_mem _ h) | (simp at h ⊢; simp [h])) ?_
              refine ws_nil ?_
              exact qe_sub (hrest (b10, b11, b12) ⟨hb10, hb11, hb12⟩) rfl
            ·
              refine ws_alloc rfl rfl rfl ?_
              intro b11 hb11
              refine od_go ?_
              refine od_seq ?_
              refine ws_callp rfl rfl rfl rfl rfl (En.go) (fun w hp hn ho => public_ret _ w) ?_
              refine ws_store rfl rfl rfl rfl (by first | exact .inl (by assumption) | exact .inr (by simp)) (fun _ h _ => by first | (cases h; done) | exact List.mem_cons_of_mem _ h | exact List.mem_cons_of_mem _ (List.mem_cons_of_mem _ h) | (simp at h ⊢; simp [h])) ?_
              refine ws_store rfl rfl rfl rfl (by first | exact .inl (by assumption) | exact .inr (by simp)) (fun _ h _ => by first | (cases h; done) | exact List.mem_cons_of_mem _ h | exact List.mem_cons_of_mem _ (List.mem_cons_of_mem _ h) | (simp at h ⊢; simp [h])) ?_
              refine ws_late rfl ?_
              refine ws_store rfl rfl rfl rfl (by first | exact .inl (by assumption) | exact .inr (by simp)) (fun _ h _ => by first | (cases h; done) | exact List.mem_cons_of_mem _ h | exact List.mem_cons_of_mem _ (List.mem_cons_of_mem _ h) | (simp at h ⊢; simp [h])) ?_
              refine ws_nil ?_
              exact qe_sub (hrest (b10, b11, b12) ⟨hb10, hb11, hb12⟩) rfl
          ·
            refine ws_alloc rfl rfl rfl ?_
            intro b11 hb11
            refine od_go ?_
            refine od_b ?_ ?_
            ·
              refine ws_callp rfl rfl rfl rfl rfl (En.go) (fun w hp hn ho => public_ret _ w) ?_
              refine od_go ?_
              refine od_seq ?_
              refine ws_alloc rfl rfl rfl ?_
              intro b10 hb10
              refine ws_store rfl rfl rfl rfl (by first | exact .inl (by assumption) | exact .inr (by simp)) (fun _ h _ => by first | (cases h; done) | exact List.mem_cons_of_mem _ h | exact List.mem_cons_of_mem _ (List.mem_cons_of_mem _ h) | (simp at h ⊢; simp [h])) ?_
              refine ws_store rfl rfl rfl rfl (by first | exact .inl (by assumption) | exact .inr (by simp)) (fun _ h _ => by first | (cases h; done) | exact List.mem_cons_of_mem _ h | exact List.mem_cons_of_mem _ (List.mem_cons_of_mem _ h) | (simp at h ⊢; simp [h])) ?_
              refine ws_late rfl ?_
              refine ws_store rfl rfl rfl rfl (by first | exact .inl (by assumption) | exact .inr (by simp)) (fun _ h _ => by first | (cases h; done) | exact List.mem_cons_of_mem _ h | exact List.mem_cons_of_mem _ (List.mem_cons_of_mem _ h) | (simp at h ⊢; simp [h])) ?_
              refine ws_nil ?_
              exact qe_sub (hrest (b10, b11, b12) ⟨hb10, hb11, hb12⟩) rfl
            ·
              refine ws_alloc rfl rfl rfl ?_
              intro b10 hb10
              refine od_go ?_
              refine od_seq ?_
              refine ws_callp rfl rfl rfl rfl rfl (En.go) (fun w hp hn ho => public_ret _ w) ?_
              refine ws_store rfl rfl rfl rfl (by first | exact .inl (by assumption) | exact .inr (by simp)) (fun _ h _ => by first | (cases h; done) | exact List.mem_cons_of_mem _ h | exact List.mem_cons_of_mem _ (List.mem_cons_of_mem _ h) | (simp at h ⊢; simp [h])) ?_
              refine ws_store rfl rfl rfl rfl (by first | exact .inl (by assumption) | exact .inr (by simp)) (fun _ h _ => by first | (cases h; done) | exact List.mem_cons_of_mem _ h | exact List.mem_cons_of_mem _ (List.mem_cons_of_mem _ h) | (simp at h ⊢; simp [h])) ?_
              refine ws_late rfl ?_
              refine ws_store rfl rfl rfl rfl (by first | exact .inl (by assumption) | exact .inr (by simp)) (fun _ h _ => by first | (cases h; done) | exact List.mem_cons_of_mem _ h | exact List.mem_cons_of_mem _ (List.mem_cons_of_mem _ h) | (simp at h ⊢; simp [h])) ?_
              refine ws_nil ?_
              exact qe_sub (hrest (b10, b11, b12) ⟨hb10, hb11, hb12⟩) rfl
      ·
        refine ws_alloc rfl rfl rfl ?_
        intro b10 hb10
        refine od_go ?_
        refine od_b3 ?_ ?_ ?_
        ·
          refine ws_callp rfl rfl rfl rfl rfl (En.go) (fun w hp hn ho => of_ref _ w) ?_
          refine od_go ?_
          refine od_b3 ?_ ?_ ?_
          ·
            refine ws_callp rfl rfl rfl rfl rfl (En.go) (fun w hp hn ho => public_ret _ w) ?_
            refine od_go ?_
            refine od_b ?_ ?_
            ·
              refine ws_alloc rfl rfl rfl ?_
              intro b11 hb11
              refine od_go ?_
              refine od_seq ?_
              refine ws_alloc rfl rfl rfl ?_
              intro b12 hb12
              refine ws_store rfl rfl rfl rfl (by first | exact .inl (by assumption) | exact .inr (by simp)) (fun _ h _ => by first | (cases h; done) | exact List.mem_cons_of_mem _ h | exact List.mem_cons_of_mem _ (List.mem_cons_of_mem _ h) | (simp at h ⊢; simp [h])) ?_
              refine ws_store rfl rfl rfl rfl (by first | exact .inl (by assumption) | exact .inr (by simp)) (fun _ h _ => by first | (cases h; done) | exact List.mem_cons_of_mem _ h | exact List.mem_cons_of_mem _ (List.mem_cons_of_mem _ h) | (simp at h ⊢; simp [h])) ?_
              refine ws_late rfl ?_
              refine ws_store rfl rfl rfl rfl (by first | exact .inl (by assumption) | exact .inr (by simp)) (fun _ h _ => by first | (cases h; done) | exact List.mem_cons_of_mem _ h | exact List.mem_cons_of_mem _ (List.mem_cons_of_mem _ h) | (simp at h ⊢; simp [h])) ?_
              refine ws_nil ?_
              exact qe_sub (hrest (b10, b11, b12) ⟨hb10, hb11, hb12⟩) rfl
            ·
              refine ws_alloc rfl rfl rfl ?_
              intro b12 hb12
              refine od_go ?_
              refine od_seq ?_
              refine ws_alloc rfl rfl rfl ?_
              intro b11 hb11
              refine ws_store rfl rfl rfl rfl (by first | exact .inl (by assumption) | exact .inr (by simp)) (fun _ h _ => by first | (cases h; done) | exact List.mem_cons_of_mem _ h | exact List.mem_cons_of_mem _ (List.mem_cons_of_mem _ h) | (simp at h ⊢; simp [h])) ?_
              refine ws_store rfl rfl rfl rfl (by first | exact .inl (by assumption) | exact .inr (by simp)) (fun _ h _ => by first | (cases h; done) | exact List.mem_cons_of_mem _ h | exact List.mem_cons_of_mem _ (List.mem_cons_of_mem _ h) | (simp at h ⊢; simp [h])) ?_
              refine ws_late rfl ?_
              refine ws_store rfl rfl rfl rfl (by first | exact .inl (by assumption) | exact .inr (by simp)) (fun _ h _ => by first | (cases h; done) | exact List.mem_cons_of_mem _ h | exact List.mem_cons_of_mem _ (List.mem_cons_of_mem _ h) | (simp at h ⊢; simp [h])) ?_
              refine ws_nil ?_
              exact qe_sub (hrest (b10, b11, b12) ⟨hb10, hb11, hb12⟩) rfl
          ·
            refine ws_alloc rfl rfl rfl ?_
            intro b11 hb11
            refine od_go ?_
            refine od_b ?_ ?_
            ·
              refine ws_callp rfl rfl rfl rfl rfl (En.go) (fun w hp hn ho => public_ret _ w) ?_
              refine od_go ?_
              refine od_seq ?_
              refine ws_alloc rfl rfl rfl ?_
              intro b12 hb12
              refine ws_store rfl rfl rfl rfl (by first | exact .inl (by assumption) | exact .inr (by simp)) (fun _ h _ => by first | (cases h; done) | exact List.mem_cons_of_mem _ h | exact List.mem_cons_of_mem _ (List.mem_cons_of_mem _ h) | (simp at h ⊢; simp [h])) ?_
              refine ws_store rfl rfl rfl rfl (by first | exact .inl (by assumption) | exact .inr (by simp)) (fun _ h _ => by first | (cases h; done) | exact List.mem_cons_of_mem _ h | exact List.mem_cons_of_mem _ (List.mem_cons_of_mem _ h) | (simp at h ⊢; simp [h])) ?_
              refine ws_late rfl ?_
              refine ws_store rfl rfl rfl rfl (by first | exact .inl (by assumption) | exact .inr (by simp)) (fun _ h _ => by first | (cases h; done) | exact List.mem_cons_of_mem _ h | exact List.mem_cons_of_mem _ (List.mem_cons_of_mem _ h) | (simp at h ⊢; simp [h])) ?_
              refine ws_nil ?_
              exact qe_sub (hrest (b10, b11, b12) ⟨hb10, hb11, hb12⟩) rfl
            ·
              refine ws_alloc rfl rfl rfl ?_
              intro b12 hb12
              refine od_go ?_
              refine od_seq ?_
              refine ws_callp rfl rfl rfl rfl rfl (En.go) (fun w hp hn ho => public_ret _ w) ?_
              refine ws_store rfl rfl rfl rfl (by first | exact .inl (by assumption) | exact .inr (by simp)) (fun _ h _ => by first | (cases h; done) | exact List.mem_cons_of_mem _ h | exact List.mem_cons_of_mem _ (List.mem_cons_of_mem _ h) | (simp at h ⊢; simp [h])) ?_
              refine ws_store rfl rfl rfl rfl (by first | exact .inl (by assumption) | exact .inr (by simp)) (fun _ h _ => by first | (cases h; done) | exact List.mem_cons_of_mem _ h | exact List.mem_cons_of_mem _ (List.mem_cons_of_mem _ h) | (simp at h ⊢; simp [h])) ?_
              refine ws_late rfl ?_
              refine ws_store rfl rfl rfl rfl (by first | exact .inl (by assumption) | exact .inr (by simp)) (fun _ h _ => by first | (cases h; done) | exact List.mem_cons_of_mem _ h | exact List.mem_cons_of_mem _ (List.mem_cons_of_mem _ h) | (simp at h ⊢; simp [h])) ?_
              refine ws_nil ?_
              exact qe_sub (hrest (b10, b11, b12) ⟨hb10, hb11, hb12⟩) rfl
          ·
            refine ws_alloc rfl rfl rfl ?_
            intro b12 hb12
            refine od_go ?_
            refine od_b ?_ ?_
            ·
              refine ws_callp rfl rfl rfl rfl rfl (En.go) (fun w hp hn ho => public_ret _ w) ?_
              refine od_go ?_
              refine od_seq ?_
              refine ws_alloc rfl rfl rfl ?_
              intro b11 hb11
              refine ws_store rfl rfl rfl rfl (by first | exact .inl (by assumption) | exact .inr (by simp)) (fun _ h _ => by first | (cases h; done) | exact List.mem_cons_of_mem _ h | exact List.mem_cons_of_mem _ (List.mem_cons_of_mem _ h) | (simp at h ⊢; simp [h])) ?_
              refine ws_store rfl rfl rfl rfl (by first | exact .inl (by assumption) | exact .inr (by simp)) (fun _ h _ => by first | (cases h; done) | exact List.mem_cons_of_mem _ h | exact List.mem_cons_of_mem _ (List.mem_cons_of_mem _ h) | (simp at h ⊢; simp [h])) ?_
              refine ws_late rfl ?_
              refine ws_store rfl rfl rfl rfl (by first | exact .inl (by assumption) | exact .inr (by simp)) (fun _ h _ => by first | (cases h; done) | exact List.mem_cons_of_mem _ h | exact List.mem_cons_of_mem _ (List.mem_cons_of_mem _ h) | (simp at h ⊢; simp [h])) ?_
              refine ws_nil ?_
              exact qe_sub (hrest (b10, b11, b12) ⟨hb10, hb11, hb12⟩) rfl
            ·
              refine ws_alloc rfl rfl rfl ?_
              intro b11 hb11
              refine od_go ?_
              refine od_seq ?_
              refine ws_callp rfl rfl rfl rfl rfl (En.go) (fun w hp hn ho => public_ret _ w) ?_
              refine ws_store rfl rfl rfl rfl (by first | exact .inl (by assumption) | exact .inr (by simp)) (fun _ h _ => by first | (cases h; done) | exact List.mem_cons_of_mem _ h | exact List.mem_cons_of_mem _ (List.mem_cons_of_mem _ h) | (simp at h ⊢; simp [h])) ?_
              refine ws_store rfl rfl rfl rfl (by first | exact .inl (by assumption) | exact .inr (by simp)) (fun _ h _ => by first | (cases h; done) | exact List.mem_cons_of_mem _ h | exact List.mem_cons_of_mem _ (List.mem_cons_of_mem _ h) | (simp at h ⊢; simp [h])) ?_
              refine ws_late rfl ?_
              refine ws_store rfl rfl rfl rfl (by first | exact .inl (by assumption) | exact .inr (by simp)) (fun _ h _ => by first | (cases h; done) | exact List.mem_cons_of_mem _ h | exact List.mem_cons_of_mem _ (List.mem_cons_of_mem _ h) | (simp at h ⊢; simp [h])) ?_
              refine ws_nil ?_
              exact qe_sub (hrest (b10, b11, b12) ⟨hb10, hb11, hb12⟩) rfl
        ·
          refine ws_alloc rfl rfl rfl ?_
          intro b11 hb11
          refine od_go ?_
          refine od_b ?_ ?_
          ·
            refine ws_callp rfl rfl rfl rfl rfl (En.go) (fun w hp hn ho => of_ref _ w) ?_
            refine od_go ?_
            refine od_b ?_ ?_
            ·
              refine ws_callp rfl rfl rfl rfl rfl (En.go) (fun w hp hn ho => public_ret _ w) ?_
              refine od_go ?_
              refine od_seq ?_
              refine ws_alloc rfl rfl rfl ?_
              intro b12 hb12
              refine ws_store rfl rfl rfl rfl (by first | exact .inl (by assumption) | exact .inr (by simp)) (fun _ h _ => by first | (cases h; done) | exact List.mem_cons_of_mem _ h | exact List.mem_cons_of_mem _ (List.mem_cons_of_mem _ h) | (simp at h ⊢; simp [h])) ?_
              refine ws_store rfl rfl rfl rfl (by first | exact .inl (by assumption) | exact .inr (by simp)) (fun _ h _ => by first | (cases h; done) | exact List.mem_cons_of_mem _ h | exact List.mem_cons_of_mem _ (List.mem_cons_of_mem _ h) | (simp at h ⊢; simp [h])) ?_
              refine ws_late rfl ?_
              refine ws_store rfl rfl rfl rfl (by first | exact .inl (by assumption) | exact .inr (by simp)) (fun _ h _ => by first | (cases h; done) | exact List.mem_cons_of_mem _ h | exact List.mem_cons_of_mem _ (List.mem_cons_of_mem _ h) | (simp at h ⊢; simp [h])) ?_
              refine ws_nil ?_
              exact qe_sub (hrest (b10, b11, b12) ⟨hb10, hb11, hb12⟩) rfl
            ·
              refine ws_alloc rfl rfl rfl ?_
              intro b12 hb12
              refine od_go ?_
              refine od_seq ?_
              refine ws_callp rfl rfl rfl rfl rfl (En.go) (fun w hp hn ho => public_ret _ w) ?_
              refine ws_store rfl rfl rfl rfl (by first | exact .inl (by assumption) | exact .inr (by simp)) (fun _ h _ => by first | (cases h; done) | exact List.mem_cons_of_mem _ h | exact List.mem_cons_of_mem _ (List.mem_cons_of_mem _ h) | (simp at h ⊢; simp [h])) ?_
              refine ws_store rfl rfl rfl rfl (by first | exact .inl (by assumption) | exact .inr (by simp)) (fun _ h _ => by first | (cases h; done) | exact List.mem_cons_of_mem _ h | exact List.mem_cons_of_mem _ (List.mem_cons_of_mem _ h) | (simp at h ⊢; simp [h])) ?_
              refine ws_late rfl ?_
              refine ws_store rfl rfl rfl rfl (by first | exact .inl (by assumption) | exact .inr (by simp)) (fun _ h _ => by first | (cases h; done) | exact List.mem_cons_of_mem _ h | exact List.mem_cons_of_mem _ (List.mem_cons_of_mem _ h) | (simp at h ⊢; simp [h])) ?_
              refine ws_nil ?_
              exact qe_sub (hrest (b10, b11, b12) ⟨hb10, hb11, hb12⟩) rfl
          ·
            refine ws_alloc rfl rfl rfl ?_
            intro b12 hb12
            refine od_go ?_
            refine od_seq ?_
            refine ws_callp rfl rfl rfl rfl rfl (En.go) (fun w hp hn ho => of_ref _ w) ?_
            refine ws_callp rfl rfl rfl rfl rfl (En.go) (fun w hp hn ho => public_ret _ w) ?_
            refine ws_store rfl rfl rfl rfl (by first | exact .inl (by assumption) | exact .inr (by simp)) (fun _ h _ => by first | (cases h; done) | exact List.mem_cons_of_mem _ h | exact List.mem_cons_of_mem _ (List.mem_cons_of_mem _ h) | (simp at h ⊢; simp [h])) ?_
            refine ws_store rfl rfl rfl rfl (by first | exact .inl (by assumption) | exact .inr (by simp)) (fun _ h _ => by first | (cases h; done) | exact List.mem_cons_of_mem _ h | exact List.mem_cons_of_mem _ (List.mem_cons_of_mem _ h) | (simp at h ⊢; simp [h])) ?_
            refine ws_late rfl ?_
            refine ws_store rfl rfl rfl rfl (by first | exact .inl (by assumption) | exact .inr (by simp)) (fun _ h _ => by first | (cases h; done) | exact List.mem_cons_of_mem _ h | exact List.mem_cons_of_mem _ (List.mem_cons_of_mem _ h) | (simp at h ⊢; simp [h])) ?_
            refine ws_nil ?_
            exact qe_sub (hrest (b10, b11, b12) ⟨hb10, hb11, hb12⟩) rfl
        ·
          refine ws_alloc rfl rfl rfl ?_
          intro b12 hb12
          refine od_go ?_
          refine od_b ?_ ?_
          ·
            refine ws_callp rfl rfl rfl rfl rfl (En.go) (fun w hp hn ho => of_ref _ w) ?_
            refine od_go ?_
            refine od_b ?_ ?_
            ·
              refine ws_callp rfl rfl rfl rfl rfl (En.go) (fun w hp hn ho => public_ret _ w) ?_
              refine od_go ?_
              refine od_seq ?_
              refine ws_alloc rfl rfl rfl ?_
              intro b11 hb11
              refine ws_store rfl rfl rfl rfl (by first | exact .inl (by assumption) | exact .inr (by simp)) (fun _ h _ => by first | (cases h; done) | exact List.mem_cons_of_mem _ h | exact List.mem_cons_of_mem _ (List.mem_cons_of_mem _ h) | (simp at h ⊢; simp [h])) ?_
              refine ws_store rfl rfl rfl rfl (by first | exact .inl (by assumption) | exact .inr (by simp)) (fun _ h _ => by first | (cases h; done) | exact List.mem_cons_of_mem _ h | exact List.mem_cons_of_mem _ (List.mem_cons_of_mem _ h) | (simp at h ⊢; simp [h])) ?_
              refine ws_late rfl ?_
              refine ws_store rfl rfl rfl rfl (by first | exact .inl (by assumption) | exact .inr (by simp)) (fun _ h _ => by first | (cases h; done) | exact List.mem_cons_of_mem _ h | exact List.mem_cons_of_mem _ (List.mem_cons_of_mem _ h) | (simp at h ⊢; simp [h])) ?_
              refine ws_nil ?_
              exact qe_sub (hrest (b10, b11, b12) ⟨hb10, hb11, hb12⟩) rfl
            ·
              refine ws_alloc rfl rfl rfl ?_
              intro b11 hb11
              refine od_go ?_
              refine od_seq ?_
              refine ws_callp rfl rfl rfl rfl rfl (En.go) (fun w hp hn ho => public_ret _ w) ?_
              refine ws_store rfl rfl rfl rfl (by first | exact .inl (by assumption) | exact .inr (by simp)) (fun _ h _ => by first | (cases h; done) | exact List.mem_cons_of_mem _ h | exact List.mem_cons_of_mem _ (List.mem_cons_of_mem _ h) | (simp at h ⊢; simp [h])) ?_
              refine ws_store rfl rfl rfl rfl (by first | exact .inl (by assumption) | exact .inr (by simp)) (fun _ h _ => by first | (cases h; done) | exact List.mem_cons_of_mem _ h | exact List.mem_cons_of_mem _ (List.mem_cons_of_mem _ h) | (simp at h ⊢; simp [h])) ?_
              refine ws_late rfl ?_
              refine ws_store rfl rfl rfl rfl (by first | exact .inl (by assumption) | exact .inr (by simp)) (fun _ h _ => by first | (cases h; done) | exact List.mem_cons_of_mem _ h | exact List.mem_cons_of_mem _ (List.mem_cons_of_mem _ h) | (simp at h ⊢; simp [h])) ?_
              refine ws_nil ?_
              exact qe_sub (hrest (b10, b11, b12) ⟨hb10, hb11, hb12⟩) rfl
          ·
            refine ws_alloc rfl rfl rfl ?_
            intro b11 hb11
            refine od_go ?_
            refine od_seq ?_
            refine ws_callp rfl rfl rfl rfl rfl (En.go) (fun w hp hn ho => of_ref _ w) ?_
            refine ws_callp rfl rfl rfl rfl rfl (En.go) (fun w hp hn ho => public_ret _ w) ?_
            refine ws_store rfl rfl rfl rfl (by first | exact .inl (by assumption) | exact .inr (by simp)) (fun _ h _ => by first | (cases h; done) | exact List.mem_cons_of_mem _ h | exact List.mem_cons_of_mem _ (List.mem_cons_of_mem _ h) | (simp at h ⊢; simp [h])) ?_
            refine ws_store rfl rfl rfl rfl (by first | exact .inl (by assumption) | exact .inr (by simp)) (fun _ h _ => by first | (cases h; done) | exact List.mem_cons_of_mem _ h | exact List.mem_cons_of_mem _ (List.mem_cons_of_mem _ h) | (simp at h ⊢; simp [h])) ?_
            refine ws_late rfl ?_
            refine ws_store rfl rfl rfl rfl (by first | exact .inl (by assumption) | exact .inr (by simp)) (fun _ h _ => by first | (cases h; done) | exact List.mem_cons_of_mem _ h | exact List.mem_cons_of_mem _ (List.mem_cons_of_mem _ h) | (simp at h ⊢; simp [h])) ?_
            refine ws_nil ?_
            exact qe_sub (hrest (b10, b11, b12) ⟨hb10, hb11, hb12⟩) rfl
      ·
        refine ws_alloc rfl rfl rfl ?_
        intro b11 hb11
        refine od_go ?_
        refine od_b3 ?_ ?_ ?_
        ·
          refine ws_callp rfl rfl rfl rfl rfl (En.go) (fun w hp hn ho => of_ref _ w) ?_
          refine od_go ?_
          refine od_b3 ?_ ?_ ?_
          ·
            refine ws_callp rfl rfl rfl rfl rfl (En.go) (fun w hp hn ho => public_ret _ w) ?_
            refine od_go ?_
            refine od_b ?_ ?_
            ·
              refine ws_alloc rfl rfl rfl ?_
              intro b10 hb10
              refine od_go ?_
              refine od_seq ?_
              refine ws_alloc rfl rfl rfl ?_
              intro b12 hb12
              refine ws_store rfl rfl rfl rfl (by first | exact .inl (by assumption) | exact .inr (by simp)) (fun _ h _ => by first | (cases h; done) | exact List.mem_cons_of_mem _ h | exact List.mem_cons_of_mem _ (List.mem_cons_of_mem _ h) | (simp at h ⊢; simp [h])) ?_
              refine ws_store rfl rfl rfl rfl (by first | exact .inl (by assumption) | exact .inr (by simp)) (fun _ h _ => by first | (cases h; done) | exact List.mem_cons_of_mem _ h | exact List.mem_cons_of_mem _ (List.mem_cons_of_mem _ h) | (simp at h ⊢; simp [h])) ?_
              refine ws_late rfl ?_
              refine ws_store rfl rfl rfl rfl (by first | exact .inl (by assumption) | exact .inr (by simp)) (fun _ h _ => by first | (cases h; done) | exact List.mem_cons_of_mem _ h | exact List.mem_cons_of_mem _ (List.mem_cons_of_mem _ h) | (simp at h ⊢; simp [h])) ?_
              refine ws_nil ?_
              exact qe_sub (hrest (b10, b11, b12) ⟨hb10, hb11, hb12⟩) rfl
            ·
              refine ws_alloc rfl rfl rfl ?_
              intro b12 hb12
              refine od_go ?_
              refine od_seq ?_
              refine ws_alloc rfl rfl rfl ?_
              intro b10 hb10
              refine ws_store rfl rfl rfl rfl (by first | exact .inl (by assumption) | exact .inr (by simp)) (fun _ h _ => by first | (cases h; done) | exact List.mem_cons_of_mem _ h | exact List.mem_cons_of_mem _ (List.mem_cons_of_mem _ h) | (simp at h ⊢; simp [h])) ?_
              refine ws_store rfl rfl rfl rfl (by first | exact .inl (by assumption) | exact .inr (by simp)) (fun _ h _ => by first | (cases h; done) | exact List.mem_cons_of_mem _ h | exact List.mem_cons_of_mem _ (List.mem_cons_of_mem _ h) | (simp at h ⊢; simp [h])) ?_
              refine ws_late rfl ?_
              refine ws_store rfl rfl rfl rfl (by first | exact .inl (by assumption) | exact .inr (by simp)) (fun _ h _ => by first | (cases h; done) | exact List.mem_cons_of_mem _ h | exact List.mem_cons_of_mem _ (List.mem_cons_of_mem _ h) | (simp at h ⊢; simp [h])) ?_
              refine ws_nil ?_
              exact qe_sub (hrest (b10, b11, b12) ⟨hb10, hb11, hb12⟩) rfl
          ·
            refine ws_alloc rfl rfl rfl ?_
            intro b10 hb10
            refine od_go ?_
            refine od_b ?_ ?_
            ·
              refine ws_callp rfl rfl rfl rfl rfl (En.go) (fun w hp hn ho => public_ret _ w) ?_
              refine od_go ?_
              refine od_seq ?_
              refine ws_alloc rfl rfl rfl ?_
              intro b12 hb12
              refine ws_store rfl rfl rfl rfl (by first | exact .inl (by assumption) | exact .inr (by simp)) (fun _ h _ => by first | (cases h; done) | exact List.mem_cons_of_mem _ h | exact List.mem_cons_of_mem _ (List.mem_cons_of_mem _ h) | (simp at h ⊢; simp [h])) ?_
              refine ws_store rfl rfl rfl rfl (by first | exact .inl (by assumption) | exact .inr (by simp)) (fun _ h _ => by first | (cases h; done) | exact List.mem_cons_of_mem _ h | exact List.mem_cons_of_mem _ (List.mem_cons_of_mem _ h) | (simp at h ⊢; simp [h])) ?_
              refine ws_late rfl ?_
              refine ws_store rfl rfl rfl rfl (by first | exact .inl (by assumption) | exact .inr (by simp)) (fun _ h _ => by first | (cases h; done) | exact List.mem_cons_of_mem _ h | exact List.mem_cons_of_mem _ (List.mem_cons_of_mem _ h) | (simp at h ⊢; simp [h])) ?_
              refine ws_nil ?_
              exact qe_sub (hrest (b10, b11, b12) ⟨hb10, hb11, hb12⟩) rfl
            ·
              refine ws_alloc rfl rfl rfl ?_
              intro b12 hb12
              refine od_go ?_
              refine od_seq ?_
              refine ws_callp rfl rfl rfl rfl rfl (En.go) (fun w hp hn ho => public_ret _ w) ?_
              refine ws_store rfl rfl rfl rfl (by first | exact .inl (by assumption) | exact .inr (by simp)) (fun _ h _ => by first | (cases h; done) | exact List.mem_cons_of_mem _ h | exact List.mem_cons_of_mem _ (List.mem_cons_of_mem _ h) | (simp at h ⊢; simp [h])) ?_
              refine ws_store rfl rfl rfl rfl (by first | exact .inl (by assumption) | exact .inr (by simp)) (fun _ h _ => by first | (cases h; done) | exact List.mem_cons_of_mem _ h | exact List.mem_cons_of_mem _ (List.mem_cons_of_mem _ h) | (simp at h ⊢; simp [h])) ?_
              refine ws_late rfl ?_
              refine ws_store rfl rfl rfl rfl (by first | exact .inl (by assumption) | exact .inr (by simp)) (fun _ h _ => by first | (cases h; done) | exact List.mem_cons_of_mem _ h | exact List.mem_cons_of_mem _ (List.mem_cons_of_mem _ h) | (simp at h ⊢; simp [h])) ?_
              refine ws_nil ?_
              exact qe_sub (hrest (b10, b11, b12) ⟨hb10, hb11, hb12⟩) rfl
          ·
            refine ws_alloc rfl rfl rfl ?_
            intro b12 hb12
            refine od_go ?_
            refine od_b ?_ ?_
            ·
              refine ws_callp rfl rfl rfl rfl rfl (En.go) (fun w hp hn ho => public_ret _ w) ?_
              refine od_go ?_
              refine od_seq ?_
              refine ws_alloc rfl rfl rfl ?_
              intro b10 hb10
              refine ws_store rfl rfl rfl rfl (by first | exact .inl (by assumption) | exact .inr (by simp)) (fun _ h _ => by first | (cases h; done) | exact List.mem_cons_of_mem _ h | exact List.mem_cons_of_mem _ (List.mem_cons_of_mem _ h) | (simp at h ⊢; simp [h])) ?_
              refine ws_store rfl rfl rfl rfl (by first | exact .inl (by assumption) | exact .inr (by simp)) (fun _ h _ => by first | (cases h; done) | exact List.mem_cons_of_mem _ h | exact List.mem_cons_of_mem _ (List.mem_cons_of_mem _ h) | (simp at h ⊢; simp [h])) ?_
              refine ws_late rfl ?_
              refine ws_store rfl rfl rfl rfl (by first | exact .inl (by assumption) | exact .inr (by simp)) (fun _ h _ => by first | (cases h; done) | exact List.mem_cons_of_mem _ h | exact List.mem_cons_of_mem _ (List.mem_cons_of_mem _ h) | (simp at h ⊢; simp [h])) ?_
              refine ws_nil ?_
              exact qe_sub (hrest (b10, b11, b12) ⟨hb10, hb11, hb12⟩) rfl
            ·
              refine ws_alloc rfl rfl rfl ?_
              intro b10 hb10
              refine od_go ?_
              refine od_seq ?_
              refine ws_callp rfl rfl rfl rfl rfl (En.go) (fun w hp hn ho => public_ret _ w) ?_
              refine ws_store rfl rfl rfl rfl (by first | exact .inl (by assumption) | exact .inr (by simp)) (fun _ h _ => by first | (cases h; done) | exact List.mem_cons_of_mem _ h | exact List.mem_cons_of_mem _ (List.mem_cons_of_mem _ h) | (simp at h ⊢; simp [h])) ?_
              refine ws_store rfl rfl rfl rfl (by first | exact .inl (by assumption) | exact .inr (by simp)) (fun _ h _ => by first | (cases h; done) | exact List.mem_cons_of_mem _ h | exact List.mem_cons_of_mem _ (List.mem_cons_of_mem _ h) | (simp at h ⊢; simp [h])) ?_
              refine ws_late rfl ?_
              refine ws_store rfl rfl rfl rfl (by first | exact .inl (by assumption) | exact .inr (by simp)) (fun _ h _ => by first | (cases h; done) | exact List.mem_cons_of_mem _ h | exact List.mem_cons_of_mem _ (List.mem_cons_of_mem _ h) | (simp at h ⊢; simp [h])) ?_
              refine ws_nil ?_
              exact qe_sub (hrest (b10, b11, b12) ⟨hb10, hb11, hb12⟩) rfl
        ·
          refine ws_alloc rfl rfl rfl ?_
          intro b10 hb10
          refine od_go ?_
          refine od_b ?_ ?_
          ·
            refine ws_callp rfl rfl rfl rfl rfl (En.go) (fun w hp hn ho => of_ref _ w) ?_
            refine od_go ?_
            refine od_b ?_ ?_
            ·
              refine ws_callp rfl rfl rfl rfl rfl (En.go) (fun w hp hn ho => public_ret _ w) ?_
              refine od_go ?_
              refine od_seq ?_
              refine ws_alloc rfl rfl rfl ?_
              intro b12 hb12
              refine ws_store rfl rfl rfl rfl (by first | exact .inl (by assumption) | exact .inr (by simp)) (fun _ h _ => by first | (cases h; done) | exact List.mem_cons_of_mem _ h | exact List.mem_cons_of_mem _ (List.mem_cons_of_mem _ h) | (simp at h ⊢; simp [h])) ?_
              refine ws_store rfl rfl rfl rfl (by first | exact .inl (by assumption) | exact .inr (by simp)) (fun _ h _ => by first | (cases h; done) | exact List.mem_cons_of_mem _ h | exact List.mem_cons_of_mem _ (List.mem_cons_of_mem _ h) | (simp at h ⊢; simp [h])) ?_
              refine ws_late rfl ?_
              refine ws_store rfl rfl rfl rfl (by first | exact .inl (by assumption) | exact .inr (by simp)) (fun _ h _ => by first | (cases h; done) | exact List.mem_cons_of_mem _ h | exact List.mem_cons_of_mem _ (List.mem_cons_of_mem _ h) | (simp at h ⊢; simp [h])) ?_
              refine ws_nil ?_
              exact qe_sub (hrest (b10, b11, b12) ⟨hb10, hb11, hb12⟩) rfl
            ·
              refine ws_alloc rfl rfl rfl ?_
              intro b12 hb12
              refine od_go ?_
              refine od_seq ?_
              refine ws_callp rfl rfl rfl rfl rfl (En.go) (fun w hp hn ho => public_ret _ w) ?_
              refine ws_store rfl rfl rfl rfl (by first | exact .inl (by assumption) | exact .inr (by simp)) (fun _ h _ => by first | (cases h; done) | exact List.mem_cons_of_mem _ h | exact List.mem_cons_of_mem _ (List.mem_cons_of_mem _ h) | (simp at h ⊢; simp [h])) ?_
              refine ws_store rfl rfl rfl rfl (by first | exact .inl (by assumption) | exact .inr (by simp)) (fun _ h _ => by first | (cases h; done) | exact List.mem_cons_of_mem _ h | exact List.mem_cons_of_mem _ (List.mem_cons_of_mem _ h) | (simp at h ⊢; simp [h])) ?_
              refine ws_late rfl ?_
              refine ws_store rfl rfl rfl rfl (by first | exact .inl (by assumption) | exact .inr (by simp)) (fun _ h _ => by first | (cases h; done) | exact List.mem_cons_of_mem _ h | exact List.mem_cons_of_mem _ (List.mem_cons_of_mem _ h) | (simp at h ⊢; simp [h])) ?_
              refine ws_nil ?_
              exact qe_sub (hrest (b10, b11, b12) ⟨hb10, hb11, hb12⟩) rfl
          ·
            refine ws_alloc rfl rfl rfl ?_
            intro b12 hb12
            refine od_go ?_
            refine od_seq ?_
            refine ws_callp rfl rfl rfl rfl rfl (En.go) (fun w hp hn ho => of_ref _ w) ?_
            refine ws_callp rfl rfl rfl rfl rfl (En.go) (fun w hp hn ho => public_ret _ w) ?_
            refine ws_store rfl rfl rfl rfl (by first | exact .inl (by assumption) | exact .inr (by simp)) (fun _ h _ => by first | (cases h; done) | exact List.mem_cons_of_mem _ h | exact List.mem_cons_of_mem _ (List.mem_cons_of_mem _ h) | (simp at h ⊢; simp [h])) ?_
            refine ws_store rfl rfl rfl rfl (by first | exact .inl (by assumption) | exact .inr (by simp)) (fun _ h _ => by first | (cases h; done) | exact List.mem_cons_of_mem _ h | exact List.mem_cons_of_mem _ (List.mem_cons_of_mem _ h) | (simp at h ⊢; simp [h])) ?_
            refine ws_late rfl ?_
            refine ws_store rfl rfl rfl rfl (by first | exact .inl (by assumption) | exact .inr (by simp)) (fun _ h _ => by first | (cases h; done) | exact List.mem_cons_of_mem _ h | exact List.mem_cons_of_mem _ (List.mem_cons_of_mem _ h) | (simp at h ⊢; simp [h])) ?_
            refine ws_nil ?_
            exact qe_sub (hrest (b10, b11, b12) ⟨hb10, hb11, hb12⟩) rfl
        ·
          refine ws_alloc rfl rfl rfl ?_
          intro b12 hb12
          refine od_go ?_
          refine od_b ?_ ?_
          ·
            refine ws_callp rfl rfl rfl rfl rfl (En.go) (fun w hp hn ho => of_ref _ w) ?_
            refine od_go ?_
            refine od_b ?_ ?_
            ·
              refine ws_callp rfl rfl rfl rfl rfl (En.go) (fun w hp hn ho => public_ret _ w) ?_
              refine od_go ?_
              refine od_seq ?_
              refine ws_alloc rfl rfl rfl ?_
              intro b10 hb10
              refine ws_store rfl rfl rfl rfl (by first | exact .inl (by assumption) | exact .inr (by simp)) (fun _ h _ => by first | (cases h; done) | exact List.mem_cons_of_mem _ h | exact List.mem_cons_of_mem _ (List.mem_cons_of_mem _ h) | (simp at h ⊢; simp [h])) ?_
              refine ws_store rfl rfl rfl rfl (by first | exact .inl (by assumption) | exact .inr (by simp)) (fun _ h _ => by first | (cases h; done) | exact List.mem_cons_of_mem _ h | exact List.mem_cons_of_mem _ (List.mem_cons_of_mem _ h) | (simp at h ⊢; simp [h])) ?_
              refine ws_late rfl ?_
              refine ws_store rfl rfl rfl rfl (by first | exact .inl (by assumption) | exact .inr (by simp)) (fun _ h _ => by first | (cases h; done) | exact List.mem_cons_of_mem _ h | exact List.mem_cons_of_mem _ (List.mem_cons_of_mem _ h) | (simp at h ⊢; simp [h])) ?_
              refine ws_nil ?_
              exact qe_sub (hrest (b10, b11, b12) ⟨hb10, hb11, hb12⟩) rfl
            ·
              refine ws_alloc rfl rfl rfl ?_
              intro b10 hb10
              refine od_go ?_
              refine od_seq ?_
              refine ws_callp rfl rfl rfl rfl rfl (En.go) (fun w hp hn ho => public_ret _ w) ?_
              refine ws_store rfl rfl rfl rfl (by first | exact .inl (by assumption) | exact .inr (by simp)) (fun _ h _ => by first | (cases h; done) | exact List.mem_cons_of_mem _ h | exact List.mem_cons_of_mem _ (List.mem_cons_of_mem _ h) | (simp at h ⊢; simp [h])) ?_
              refine ws_store rfl rfl rfl rfl (by first | exact .inl (by assumption) | exact .inr (by simp)) (fun _ h _ => by first | (cases h; done) | exact List.mem_cons_of_mem _ h | exact List.mem_cons_of_mem _ (List.mem_cons_of_mem _ h) | (simp at h ⊢; simp [h])) ?_
              refine ws_late rfl ?_
              refine ws_store rfl rfl rfl rfl (by first | exact .inl (by assumption) | exact .inr (by simp)) (fun _ h _ => by first | (cases h; done) | exact List.mem_cons_of_mem _ h | exact List.mem_cons_of_mem _ (List.mem_cons_of_mem _ h) | (simp at h ⊢; simp [h])) ?_
              refine ws_nil ?_
              exact qe_sub (hrest (b10, b11, b12) ⟨hb10, hb11, hb12⟩) rfl
          ·
            refine ws_alloc rfl rfl rfl ?_
            intro b10 hb10
            refine od_go ?_
            refine od_seq ?_
            refine ws_callp rfl rfl rfl rfl rfl (En.go) (fun w hp hn ho => of_ref _ w) ?_
            refine ws_callp rfl rfl rfl rfl rfl (En.go) (fun w hp hn ho => public_ret _ w) ?_
            refine ws_store rfl rfl rfl rfl (by first | exact .inl (by assumption) | exact .inr (by simp)) (fun _ h _ => by first | (cases h; done) | exact List.mem_cons_of_mem _ h | exact List.mem_cons_of_mem _ (List.mem_cons_of_mem _ h) | (simp at h ⊢; simp [h])) ?_
            refine ws_store rfl rfl rfl rfl (by first | exact .inl (by assumption) | exact .inr (by simp)) (fun _ h _ => by first | (cases h; done) | exact List.mem_cons_of_mem _ h | exact List.mem_cons_of_mem _ (List.mem_cons_of_mem _ h) | (simp at h ⊢; simp [h])) ?_
            refine ws_late rfl ?_
            refine ws_store rfl rfl rfl rfl (by first | exact .inl (by assumption) | exact .inr (by simp)) (fun _ h _ => by first | (cases h; done) | exact List.mem_cons_of_mem _ h | exact List.mem_cons_of_mem _ (List.mem_cons_of_mem _ h) | (simp at h ⊢; simp [h])) ?_
            refine ws_nil ?_
            exact qe_sub (hrest (b10, b11, b12) ⟨hb10, hb11, hb12⟩) rfl
      ·
        refine ws_alloc rfl rfl rfl ?_
        intro b12 hb12
        refine od_go ?_
        refine od_b3 ?_ ?_ ?_
        ·
          refine ws_callp rfl rfl rfl rfl rfl (En.go) (fun w hp hn ho => of_ref _ w) ?_
          refine od_go ?_
          refine od_b3 ?_ ?_ ?_
          ·
            refine ws_callp rfl rfl rfl rfl rfl (En.go) (fun w hp hn ho => public_ret _ w) ?_
            refine od_go ?_
            refine od_b ?_ ?_
            ·
              refine ws_alloc rfl rfl rfl ?_
              intro b10 hb10
              refine od_go ?_
              refine od_seq ?_
              refine ws_alloc rfl rfl rfl ?_
              intro b11 hb11
              refine ws_store rfl rfl rfl rfl (by first | exact .inl (by assumption) | exact .inr (by simp)) (fun _ h _ => by first | (cases h; done) | exact List.mem_cons_of_mem _ h | exact List.mem_cons_of_mem _ (List.mem_cons_of_mem _ h) | (simp at h ⊢; simp [h])) ?_
              refine ws_store rfl rfl rfl rfl (by first | exact .inl (by assumption) | exact .inr (by simp)) (fun _ h _ => by first | (cases h; done) | exact List.mem_cons_of_mem _ h | exact List.mem_cons_of_mem _ (List.mem_cons_of_mem _ h) | (simp at h ⊢; simp [h])) ?_
              refine ws_late rfl ?_
              refine ws_store rfl rfl rfl rfl (by first | exact .inl (by assumption) | exact .inr (by simp)) (fun _ h _ => by first | (cases h; done) | exact List.mem_cons_of_mem _ h | exact List.mem_cons_of_mem _ (List.mem_cons_of_mem _ h) | (simp at h ⊢; simp [h])) ?_
              refine ws_nil ?_
              exact qe_sub (hrest (b10, b11, b12) ⟨hb10, hb11, hb12⟩) rfl
            ·
              refine ws_alloc rfl rfl rfl ?_
              intro b11 hb11
              refine od_go ?_
              refine od_seq ?_
              refine ws_alloc rfl rfl rfl ?_
              intro b10 hb10
              refine ws_store rfl rfl rfl rfl (by first | exact .inl (by assumption) | exact .inr (by simp)) (fun _ h _ => by first | (cases h; done) | exact List.mem_cons_of_mem _ h | exact List.mem_cons_of_mem _ (List.mem_cons_of_mem _ h) | (simp at h ⊢; simp [h])) ?_
              refine ws_store rfl rfl rfl rfl (by first | exact .inl (by assumption) | exact .inr (by simp)) (fun _ h _ => by first | (cases h; done) | exact List.mem_cons_of_mem _ h | exact List.mem_cons_of_mem _ (List.mem_cons_of_mem _ h) | (simp at h ⊢; simp [h])) ?_
              refine ws_late rfl ?_
              refine ws_store rfl rfl rfl rfl (by first | exact .inl (by assumption) | exact .inr (by simp)) (fun _ h _ => by first | (cases h; done) | exact List.mem_cons_of_mem _ h | exact List.mem_cons_of_mem _ (List.mem_cons_of_mem _ h) | (simp at h ⊢; simp [h])) ?_
              refine ws_nil ?_
              exact qe_sub (hrest (b10, b11, b12) ⟨hb10, hb11, hb12⟩) rfl
          ·
            refine ws_alloc rfl rfl rfl ?_
            intro b10 hb10
            refine od_go ?_
            refine od_b ?_ ?_
            ·
              refine ws_callp rfl rfl rfl rfl rfl (En.go) (fun w hp hn ho => public_ret _ w) ?_
              refine od_go ?_
              refine od_seq ?_
              refine ws_alloc rfl rfl rfl ?_
              intro b11 hb11
              refine ws_store rfl rfl rfl rfl (by first | exact .inl (by assumption) | exact .inr (by simp)) (fun _ h _ => by first | (cases h; done) | exact List.mem_cons_of_mem _ h | exact List.mem_cons_of_mem _ (List.mem_cons_of_mem _ h) | (simp at h ⊢; simp [h])) ?_
              refine ws_store rfl rfl rfl rfl (by first | exact .inl (by assumption) | exact .inr (by simp)) (fun _ h _ => by first | (cases h; done) | exact List.mem_cons_of_mem _ h | exact List.mem_cons_of_mem _ (List.mem_cons_of_mem _ h) | (simp at h ⊢; simp [h])) ?_
              refine ws_late rfl ?_
              refine ws_store rfl rfl rfl rfl (by first | exact .inl (by assumption) | exact .inr (by simp)) (fun _ h _ => by first | (cases h; done) | exact List.mem_cons_of_mem _ h | exact List.mem_cons_of_mem _ (List.mem_cons_of_mem _ h) | (simp at h ⊢; simp [h])) ?_
              refine ws_nil ?_
              exact qe_sub (hrest (b10, b11, b12) ⟨hb10, hb11, hb12⟩) rfl
            ·
              refine ws_alloc rfl rfl rfl ?_
              intro b11 hb11
              refine od_go ?_
              refine od_seq ?_
              refine ws_callp rfl rfl rfl rfl rfl (En.go) (fun w hp hn ho => public_ret _ w) ?_
              refine ws_store rfl rfl rfl rfl (by first | exact .inl (by assumption) | exact .inr (by simp)) (fun _ h _ => by first | (cases h; done) | exact List.mem_cons_of_mem _ h | exact List.mem_cons_of_mem _ (List.mem_cons_of_mem _ h) | (simp at h ⊢; simp [h])) ?_
              refine ws_store rfl rfl rfl rfl (by first | exact .inl (by assumption) | exact .inr (by simp)) (fun _ h _ => by first | (cases h; done) | exact List.mem_cons_of_mem _ h | exact List.mem_cons_of_mem _ (List.mem_cons_of_mem _ h) | (simp at h ⊢; simp [h])) ?_
              refine ws_late rfl ?_
              refine ws_store rfl rfl rfl rfl (by first | exact .inl (by assumption) | exact .inr (by simp)) (fun _ h _ => by first | (cases h; done) | exact List.mem_cons_of_mem _ h | exact List.mem_cons_of_mem _ (List.mem_cons_of_mem _ h) | (simp at h ⊢; simp [h])) ?_
              refine ws_nil ?_
              exact qe_sub (hrest (b10, b11, b12) ⟨hb10, hb11, hb12⟩) rfl
          ·
            refine ws_alloc rfl rfl rfl ?_
            intro b11 hb11
            refine od_go ?_
            refine od_b ?_ ?_
            ·
              refine ws_callp rfl rfl rfl rfl rfl (En.go) (fun w hp hn ho => public_ret _ w) ?_
              refine od_go ?_
              refine od_seq ?_
              refine ws_alloc rfl rfl rfl ?_
              intro b10 hb10
              refine ws_store rfl rfl rfl rfl (by first | exact .inl (by assumption) | exact .inr (by simp)) (fun _ h _ => by first | (cases h; done) | exact List.mem_cons_of_mem _ h | exact List.mem_cons_of_mem _ (List.mem_cons_of_mem _ h) | (simp at h ⊢; simp [h])) ?_
              refine ws_store rfl rfl rfl rfl (by first | exact .inl (by assumption) | exact .inr (by simp)) (fun _ h _ => by first | (cases h; done) | exact List.mem_cons_of_mem _ h | exact List.mem_cons_of_mem _ (List.mem_cons_of_mem _ h) | (simp at h ⊢; simp [h])) ?_
              refine ws_late rfl ?_
              refine ws_store rfl rfl rfl rfl (by first | exact .inl (by assumption) | exact .inr (by simp)) (fun _ h _ => by first | (cases h; done) | exact List.mem_cons_of_mem _ h | exact List.mem_cons_of_mem _ (List.mem_cons_of_mem _ h) | (simp at h ⊢; simp [h])) ?_
              refine ws_nil ?_
              exact qe_sub (hrest (b10, b11, b12) ⟨hb10, hb11, hb12⟩) rfl
            ·
              refine ws_alloc rfl rfl rfl ?_
              intro b10 hb10
              refine od_go ?_
              refine od_seq ?_
              refine ws_callp rfl rfl rfl rfl rfl (En.go) (fun w hp hn ho => public_ret _ w) ?_
              refine ws_store rfl rfl rfl rfl (by first | exact .inl (by assumption) | exact .inr (by simp)) (fun _ h _ => by first | (cases h; done) | exact List.mem_cons_of_mem _ h | exact List.mem_cons_of_mem _ (List.mem_cons_of_mem _ h) | (simp at h ⊢; simp [h])) ?_
              refine ws_store rfl rfl rfl rfl (by first | exact .inl (by assumption) | exact .inr (by simp)) (fun _ h _ => by first | (cases h; done) | exact List.mem_cons_of_mem _ h | exact List.mem_cons_of_mem _ (List.mem_cons_of_mem _ h) | (simp at h ⊢; simp [h])) ?_
              refine ws_late rfl ?_
              refine ws_store rfl rfl rfl rfl (by first | exact .inl (by assumption) | exact .inr (by simp)) (fun _ h _ => by first | (cases h; done) | exact List.mem_cons_of_mem _ h | exact List.mem_cons_of_mem _ (List.mem_cons_of_mem _ h) | (simp at h ⊢; simp [h])) ?_
              refine ws_nil ?_
              exact qe_sub (hrest (b10, b11, b12) ⟨hb10, hb11, hb12⟩) rfl
        ·
          refine ws_alloc rfl rfl rfl ?_
          intro b10 hb10
          refine od_go ?_
          refine od_b ?_ ?_
          ·
            refine ws_callp rfl rfl rfl rfl rfl (En.go) (fun w hp hn ho => of_ref _ w) ?_
            refine od_go ?_
            refine od_b ?_ ?_
            ·
              refine ws_callp rfl rfl rfl rfl rfl (En.go) (fun w hp hn ho => public_ret _ w) ?_
              refine od_go ?_
              refine od_seq ?_
              refine ws_alloc rfl rfl rfl ?_
              intro b11 hb11
              refine ws_store rfl rfl rfl rfl (by first | exact .inl (by assumption) | exact .inr (by simp)) (fun _ h _ => by first | (cases h; done) | exact List.mem_cons_of_mem _ h | exact List.mem_cons_of_mem _ (List.mem_cons_of_mem _ h) | (simp at h ⊢; simp [h])) ?_
              refine ws_store rfl rfl rfl rfl (by first | exact .inl (by assumption) | exact .inr (by simp)) (fun _ h _ => by first | (cases h; done) | exact List.mem_cons_of_mem _ h | exact List.mem_cons_of_mem _ (List.mem_cons_of_mem _ h) | (simp at h ⊢; simp [h])) ?_
              refine ws_late rfl ?_
              refine ws_store rfl rfl rfl rfl (by first | exact .inl (by assumption) | exact .inr (by simp)) (fun _ h _ => by first | (cases h; done) | exact List.mem_cons_of_mem _ h | exact List.mem_cons_of_mem _ (List.mem_cons_of_mem _ h) | (simp at h ⊢; simp [h])) ?_
              refine ws_nil ?_
              exact qe_sub (hrest (b10, b11, b12) ⟨hb10, hb11, hb12⟩) rfl
            ·
              refine ws_alloc rfl rfl rfl ?_
              intro b11 hb11
              refine od_go ?_
              refine od_seq ?_
              refine ws_callp rfl rfl rfl rfl rfl (En.go) (fun w hp hn ho => public_ret _ w) ?_
              refine ws_store rfl rfl rfl rfl (by first | exact .inl (by assumption) | exact .inr (by simp)) (fun _ h _ => by first | (cases h; done) | exact List.mem_cons_of_mem _ h | exact List.mem_cons_of_mem _ (List.mem_cons_of_mem _ h) | (simp at h ⊢; simp [h])) ?_
              refine ws_store rfl rfl rfl rfl (by first | exact .inl (by assumption) | exact .inr (by simp)) (fun _ h _ => by first | (cases h; done) | exact List.mem_cons_of_mem _ h | exact List.mem_cons_of_mem _ (List.mem_cons_of_mem _ h) | (simp at h ⊢; simp [h])) ?_
              refine ws_late rfl ?_
              refine ws_store rfl rfl rfl rfl (by first | exact .inl (by assumption) | exact .inr (by simp)) (fun _ h _ => by first | (cases h; done) | exact List.mem_cons_of_mem _ h | exact List.mem_cons_of_mem _ (List.mem_cons_of_mem _ h) | (simp at h ⊢; simp [h])) ?_
              refine ws_nil ?_
              exact qe_sub (hrest (b10, b11, b12) ⟨hb10, hb11, hb12⟩) rfl
          ·
            refine ws_alloc rfl rfl rfl ?_
            intro b11 hb11
            refine od_go ?_
            refine od_seq ?_
            refine ws_callp rfl rfl rfl rfl rfl (En.go) (fun w hp hn ho => of_ref _ w) ?_
            refine ws_callp rfl rfl rfl rfl rfl (En.go) (fun w hp hn ho => public_ret _ w) ?_
            refine ws_store rfl rfl rfl rfl (by first | exact .inl (by assumption) | exact .inr (by simp)) (fun _ h _ => by first | (cases h; done) | exact List.mem_cons_of_mem _ h | exact List.mem_cons_of_mem _ (List.mem_cons_of_mem _ h) | (simp at h ⊢; simp [h])) ?_
            refine ws_store rfl rfl rfl rfl (by first | exact .inl (by assumption) | exact .inr (by simp)) (fun _ h _ => by first | (cases h; done) | exact List.mem_cons_of_mem _ h | exact List.mem_cons_of_mem _ (List.mem_cons_of_mem _ h) | (simp at h ⊢; simp [h])) ?_
            refine ws_late rfl ?_
            refine ws_store rfl rfl rfl rfl (by first | exact .inl (by assumption) | exact .inr (by simp)) (fun _ h _ => by first | (cases h; done) | exact List.mem_cons_of_mem _ h | exact List.mem_cons_of_mem _ (List.mem_cons_of_mem _ h) | (simp at h ⊢; simp [h])) ?_
            refine ws_nil ?_
            exact qe_sub (hrest (b10, b11, b12) ⟨hb10, hb11, hb12⟩) rfl
        ·
          refine ws_alloc rfl rfl rfl ?_
          intro b11 hb11
          refine od_go ?_
          refine od_b ?_ ?_
          ·
            refine ws_callp rfl rfl rfl rfl rfl (En.go) (fun w hp hn ho => of_ref _ w) ?_
            refine od_go ?_
            refine od_b ?_ ?_
            ·
              refine ws_callp rfl rfl rfl rfl rfl (En.go) (fun w hp hn ho => public_ret _ w) ?_
              refine od_go ?_
              refine od_seq ?_
              refine ws_alloc rfl rfl rfl ?_
              intro b10 hb10
              refine ws_store rfl rfl rfl rfl (by first | exact .inl (by assumption) | exact .inr (by simp)) (fun _ h _ => by first | (cases h; done) | exact List.mem_cons_of_mem _ h | exact List.mem_cons_of_mem _ (List.mem_cons_of_mem _ h) | (simp at h ⊢; simp [h])) ?_
              refine ws_store rfl rfl rfl rfl (by first | exact .inl (by assumption) | exact .inr (by simp)) (fun _ h _ => by first | (cases h; done) | exact List.mem_cons_of_mem _ h | exact List.mem_cons_of_mem _ (List.mem_cons_of_mem _ h) | (simp at h ⊢; simp [h])) ?_
              refine ws_late rfl ?_
              refine ws_store rfl rfl rfl rfl (by first | exact .inl (by assumption) | exact .inr (by simp)) (fun _ h _ => by first | (cases h; done) | exact List.mem_cons_of_mem _ h | exact List.mem_cons_of_mem _ (List.mem_cons_of_mem _ h) | (simp at h ⊢; simp [h])) ?_
              refine ws_nil ?_
              exact qe_sub (hrest (b10, b11, b12) ⟨hb10, hb11, hb12⟩) rfl
            ·
              refine ws_alloc rfl rfl rfl ?_
              intro b10 hb10
              refine od_go ?_
              refine od_seq ?_
              refine ws_callp rfl rfl rfl rfl rfl (En.go) (fun w hp hn ho => public_ret _ w) ?_
              refine ws_store rfl rfl rfl rfl (by first | exact .inl (by assumption) | exact .inr (by simp)) (fun _ h _ => by first | (cases h; done) | exact List.mem_cons_of_mem _ h | exact List.mem_cons_of_mem _ (List.mem_cons_of_mem _ h) | (simp at h ⊢; simp [h])) ?_
              refine ws_store rfl rfl rfl rfl (by first | exact .inl (by assumption) | exact .inr (by simp)) (fun _ h _ => by first | (cases h; done) | exact List.mem_cons_of_mem _ h | exact List.mem_cons_of_mem _ (List.mem_cons_of_mem _ h) | (simp at h ⊢; simp [h])) ?_
              refine ws_late rfl ?_
              refine ws_store rfl rfl rfl rfl (by first | exact .inl (by assumption) | exact .inr (by simp)) (fun _ h _ => by first | (cases h; done) | exact List.mem_cons_of_mem _ h | exact List.mem_cons_of_mem _ (List.mem_cons_of_mem _ h) | (simp at h ⊢; simp [h])) ?_
              refine ws_nil ?_
              exact qe_sub (hrest (b10, b11, b12) ⟨hb10, hb11, hb12⟩) rfl
          ·
            refine ws_alloc rfl rfl rfl ?_
            intro b10 hb10
            refine od_go ?_
            refine od_seq ?_
            refine ws_callp rfl rfl rfl rfl rfl (En.go) (fun w hp hn ho => of_ref _ w) ?_
            refine ws_callp rfl rfl rfl rfl rfl (En.go) (fun w hp hn ho => public_ret _ w) ?_
            refine ws_store rfl rfl rfl rfl (by first | exact .inl (by assumption) | exact .inr (by simp)) (fun _ h _ => by first | (cases h; done) | exact List.mem_cons_of_mem _ h | exact List.mem_cons_of_mem _ (List.mem_cons_of_mem _ h) | (simp at h ⊢; simp [h])) ?_
            refine ws_store rfl rfl rfl rfl (by first | exact .inl (by assumption) | exact .inr (by simp)) (fun _ h _ => by first | (cases h; done) | exact List.mem_cons_of_mem _ h | exact List.mem_cons_of_mem _ (List.mem_cons_of_mem _ h) | (simp at h ⊢; simp [h])) ?_
            refine ws_late rfl ?_
            refine ws_store rfl rfl rfl rfl (by first | exact .inl (by assumption) | exact .inr (by simp)) (fun _ h _ => by first | (cases h; done) | exact List.mem_cons_of_mem _ h | exact List.mem_cons_of_mem _ (List.mem_cons_of_mem _ h) | (simp at h ⊢; simp [h])) ?_
            refine ws_nil ?_
            exact qe_sub (hrest (b10, b11, b12) ⟨hb10, hb11, hb12⟩) rfl
    ·
      refine ws_alloc rfl rfl rfl ?_
      intro b10 hb10
      refine od_go ?_
      refine od_b3 ?_ ?_ ?_
      ·
        refine ws_callp rfl rfl rfl rfl rfl (En.go) (fun w hp hn ho => public_ret _ w) ?_
        refine od_go ?_
        refine od_b3 ?_ ?_ ?_
        ·
          refine ws_callp rfl rfl rfl rfl rfl (En.go) (fun w hp hn ho => of_ref _ w) ?_
          refine od_go ?_
          refine od_b3 ?_ ?_ ?_
          ·
            refine ws_callp rfl rfl rfl rfl rfl (En.go) (fun w hp hn ho => public_ret _ w) ?_
            refine od_go ?_
            refine od_b ?_ ?_
            ·
              refine ws_alloc rfl rfl rfl ?_
              intro b11 hb11
              refine od_go ?_
              refine od_seq ?_
              refine ws_alloc rfl rfl rfl ?_
              intro b12 hb12
              refine ws_store rfl rfl rfl rfl (by first | exact .inl (by assumption) | exact .inr (by simp)) (fun _ h _ => by first | (cases h; done) | exact List.mem_cons_of_mem _ h | exact List.mem_cons_of_mem _ (List.mem_cons_of_mem _ h) | (simp at h ⊢; simp [h])) ?_
              refine ws_store rfl rfl rfl rfl (by first | exact .inl (by assumption) | exact .inr (by simp)) (fun _ h _ => by first | (cases h; done) | exact List.mem_cons_of_mem _ h | exact List.mem_cons_of_mem _ (List.mem_cons_of_mem _ h) | (simp at h ⊢; simp [h])) ?_
              refine ws_late rfl ?_
              refine ws_store rfl rfl rfl rfl (by first | exact .inl (by assumption) | exact .inr (by simp)) (fun _ h _ => by first | (cases h; done) | exact List.mem_cons_of_mem _ h | exact List.mem_cons_of_mem _ (List.mem_cons_of_mem _ h) | (simp at h ⊢; simp [h])) ?_
              refine ws_nil ?_
              exact qe_sub (hrest (b10, b11, b12) ⟨hb10, hb11, hb12⟩) rfl
            ·
              refine ws_alloc rfl rfl rfl ?_
              intro b12 hb12
              refine od_go ?_
              refine od_seq ?_
              refine ws_alloc rfl rfl rfl ?_
              intro b11 hb11
              refine ws_store rfl rfl rfl rfl (by first | exact .inl (by assumption) | exact .inr (by simp)) (fun _ h _ => by first | (cases h; done) | exact List.mem_cons_of_mem _ h | exact List.mem_cons_of_mem _ (List.mem_cons_of_mem _ h) | (simp at h ⊢; simp [h])) ?_
              refine ws_store rfl rfl rfl rfl (by first | exact .inl (by assumption) | exact .inr (by simp)) (fun _ h _ => by first | (cases h; done) | exact List.mem_cons_of_mem _ h | exact List.mem_cons_of_mem _ (List.mem_cons_of_mem _ h) | (simp at h ⊢; simp [h])) ?_
              refine ws_late rfl ?_
              refine ws_store rfl rfl rfl rfl (by first | exact .inl (by assumption) | exact .inr (by simp)) (fun _ h _ => by first | (cases h; done) | exact List.mem_cons_of_mem _ h | exact List.mem_cons_of_mem _ (List.mem_cons_of_mem _ h) | (simp at h ⊢; simp [h])) ?_
              refine ws_nil ?_
              exact qe_sub (hrest (b10, b11, b12) ⟨hb10, hb11, hb12⟩) rfl
          ·
            refine ws_alloc rfl rfl rfl ?_
            intro b11 hb11
            refine od_go ?_
            refine od_b ?_ ?_
            ·
              refine ws_callp rfl rfl rfl rfl rfl (En.go) (fun w hp hn ho => public_ret _ w) ?_
              refine od_go ?_
              refine od_seq ?_
              refine ws_alloc rfl rfl rfl ?_
              intro b12 hb12
              refine ws_store rfl rfl rfl rfl (by first | exact .inl (by assumption) | exact .inr (by simp)) (fun _ h _ => by first | (cases h; done) | exact List.mem_cons_of_mem _ h | exact List.mem_cons_of_mem _ (List.mem_cons_of_mem _ h) | (simp at h ⊢; simp [h])) ?_
              refine ws_store rfl rfl rfl rfl (by first | exact .inl (by assumption) | exact .inr (by simp)) (fun _ h _ => by first | (cases h; done) | exact List.mem_cons_of_mem _ h | exact List.mem_cons_of_mem _ (List.mem_cons_of_mem _ h) | (simp at h ⊢; simp [h])) ?_
              refine ws_late rfl ?_
              refine ws_store rfl rfl rfl rfl (by first | exact .inl (by assumption) | exact .inr (by simp)) (fun _ h _ => by first | (cases h; done) | exact List.mem_cons_of_mem _ h | exact List.mem_cons_of_mem _ (List.mem_cons_of_mem _ h) | (simp at h ⊢; simp [h])) ?_
              refine ws_nil ?_
              exact qe_sub (hrest (b10, b11, b12) ⟨hb10, hb11, hb12⟩) rfl
            ·
              refine ws_alloc rfl rfl rfl ?_
              intro b12 hb12
              refine od_go ?_
              refine od_seq ?_
              refine ws_callp rfl rfl rfl rfl rfl (En.go) (fun w hp hn ho => public_ret _ w) ?_
              refine ws_store rfl rfl rfl rfl (by first | exact .inl (by assumption) | exact .inr (by simp)) (fun _ h _ => by first | (cases h; done) | exact List.mem_cons_of_mem _ h | exact List.mem_cons_of_mem _ (List.mem_cons_of_mem _ h) | (simp at h ⊢; simp [h])) ?_
              refine ws_store rfl rfl rfl rfl (by first | exact .inl (by assumption) | exact .inr (by simp)) (fun _ h _ => by first | (cases h; done) | exact List.mem_cons_of_mem _ h | exact List.mem_cons_of_mem _ (List.mem_cons_of_mem _ h) | (simp at h ⊢; simp [h])) ?_
              refine ws_late rfl ?_
              refine ws_store rfl rfl rfl rfl (by first | exact .inl (by assumption) | exact .inr (by simp)) (fun _ h _ => by first | (cases h; done) | exact List.mem_cons_of_mem _ h | exact List.mem_cons_of_mem _ (List.mem_cons_of_mem _ h) | (simp at h ⊢; simp [h])) ?_
              refine ws_nil ?_
              exact qe_sub (hrest (b10, b11, b12) ⟨hb10, hb11, hb12⟩) rfl
          ·
            refine ws_alloc rfl rfl rfl ?_
            intro b12 hb12
            refine od_go ?_
            refine od_b ?_ ?_
            ·
              refine ws_callp rfl rfl rfl rfl rfl (En.go) (fun w hp hn ho => public_ret _ w) ?_
              refine od_go ?_
              refine od_seq ?_
              refine ws_alloc rfl rfl rfl ?_
              intro b11 hb11
              refine ws_store rfl rfl rfl rfl (by first | exact .inl (by assumption) | exact .inr (by simp)) (fun _ h _ => by first | (cases h; done) | exact List.mem_cons_of_mem _ h | exact List.mem_cons_of_mem _ (List.mem_cons_of_mem _ h) | (simp at h ⊢; simp [h])) ?_
              refine ws_store rfl rfl rfl rfl (by first | exact .inl (by assumption) | exact .inr (by simp)) (fun _ h _ => by first | (cases h; done) | exact List.mem_cons_of_mem _ h | exact List.mem_cons_of_mem _ (List.mem_cons_of_mem _ h) | (simp at h ⊢; simp [h])) ?_
              refine ws_late rfl ?_
              refine ws_store rfl rfl rfl rfl (by first | exact .inl (by assumption) | exact .inr (by simp)) (fun _ h _ => by first | (cases h; done) | exact List.mem_cons_of_mem _ h | exact List.mem_cons_of_mem _ (List.mem_cons_of_mem _ h) | (simp at h ⊢; simp [h])) ?_
              refine ws_nil ?_
              exact qe_sub (hrest (b10, b11, b12) ⟨hb10, hb11, hb12⟩) rfl
            ·
              refine ws_alloc rfl rfl rfl ?_
              intro b11 hb11
              refine od_go ?_
              refine od_seq ?_
              refine ws_callp rfl rfl rfl rfl rfl (En.go) (fun w hp hn ho => public_ret _ w) ?_
              refine ws_store rfl rfl rfl rfl (by first | exact .inl (by assumption) | exact .inr (by simp)) (fun _ h _ => by first | (cases h; done) | exact List.mem_cons_of_mem _ h | exact List.mem_cons_of_mem _ (List.mem_cons_of_mem _ h) | (simp at h ⊢; simp [h])) ?_
              refine ws_store rfl rfl rfl rfl (by first | exact .inl (by assumption) | exact .inr (by simp)) (fun _ h _ => by first | (cases h; done) | exact List.mem_cons_of_mem _ h | exact List.mem_cons_of_mem _ (List.mem_cons_of_mem _ h) | (simp at h ⊢; simp [h])) ?_
              refine ws_late rfl ?_
              refine ws_store rfl rfl rfl rfl (by first | exact .inl (by assumption) | exact .inr (by simp)) (fun _ h _ => by first | (cases h; done) | exact List.mem_cons_of_mem _ h | exact List.mem_cons_of_mem _ (List.mem_cons_of_mem _ h) | (simp at h ⊢; simp [h])) ?_
              refine ws_nil ?_
              exact qe_sub (hrest (b10, b11, b12) ⟨hb10, hb11, hb12⟩) rfl
        ·
          refine ws_alloc rfl rfl rfl ?_
          intro b11 hb11
          refine od_go ?_
          refine od_b ?_ ?_
          ·
            refine ws_callp rfl rfl rfl rfl rfl (En.go) (fun w hp hn ho => of_ref _ w) ?_
            refine od_go ?_
            refine od_b ?_ ?_
            ·
              refine ws_callp rfl rfl rfl rfl rfl (En.go) (fun w hp hn ho => public_ret _ w) ?_
              refine od_go ?_
              refine od_seq ?_
              refine ws_alloc rfl rfl rfl ?_
              intro b12 hb12
              refine ws_store rfl rfl rfl rfl (by first | exact .inl (by assumption) | exact .inr (by simp)) (fun _ h _ => by first | (cases h; done) | exact List.mem_cons_of_mem _ h | exact List.mem_cons_of_mem _ (List.mem_cons_of_mem _ h) | (simp at h ⊢; simp [h])) ?_
              refine ws_store rfl rfl rfl rfl (by first | exact .inl (by assumption) | exact .inr (by simp)) (fun _ h _ => by first | (cases h; done) | exact List.mem_cons_of_mem _ h | exact List.mem_cons_of_mem _ (List.mem_cons_of_mem _ h) | (simp at h ⊢; simp [h])) ?_
              refine ws_late rfl ?_
              refine ws_store rfl rfl rfl rfl (by first | exact .inl (by assumption) | exact .inr (by simp)) (fun _ h _ => by first | (cases h; done) | exact List.mem_cons_of_mem _ h | exact List.mem_cons_of_mem _ (List.mem_cons_of_mem _ h) | (simp at h ⊢; simp [h])) ?_
              refine ws_nil ?_
              exact qe_sub (hrest (b10, b11, b12) ⟨hb10, hb11, hb12⟩) rfl
            ·
              refine ws_alloc rfl rfl rfl ?_
              intro b12 hb12
              refine od_go ?_
              refine od_seq ?_
              refine ws_callp rfl rfl rfl rfl rfl (En.go) (fun w hp hn ho => public_ret _ w) ?_
              refine ws_store rfl rfl rfl rfl (by first | exact .inl (by assumption) | exact .inr (by simp)) (fun _ h _ => by first | (cases h; done) | exact List.mem_cons_of_mem _ h | exact List.mem_cons_of_mem _ (List.mem_cons_of_mem _ h) | (simp at h ⊢; simp [h])) ?_
              refine ws_store rfl rfl rfl rfl (by first | exact .inl (by assumption) | exact .inr (by simp)) (fun _ h _ => by first | (cases h; done) | exact List.mem_cons_of_mem _ h | exact List.mem_cons_of_mem _ (List.mem_cons_of_mem _ h) | (simp at h ⊢; simp [h])) ?_
              refine ws_late rfl ?_
              refine ws_store rfl rfl rfl rfl (by first | exact .inl (by assumption) | exact .inr (by simp)) (fun _ h _ => by first | (cases h; done) | exact List.mem_cons_of_mem _ h | exact List.mem_cons_of_mem _ (List.mem_cons_of_mem _ h) | (simp at h ⊢; simp [h])) ?_
              refine ws_nil ?_
              exact qe_sub (hrest (b10, b11, b12) ⟨hb10, hb11, hb12⟩) rfl
          ·
            refine ws_alloc rfl rfl rfl ?_
            intro b12 hb12
            refine od_go ?_
            refine od_seq ?_
            refine ws_callp rfl rfl rfl rfl rfl (En.go) (fun w hp hn ho => of_ref _ w) ?_
            refine ws_callp rfl rfl rfl rfl rfl (En.go) (fun w hp hn ho => public_ret _ w) ?_
            refine ws_store rfl rfl rfl rfl (by first | exact .inl (by assumption) | exact .inr (by simp)) (fun _ h _ => by first | (cases h; done) | exact List.mem_cons_of_mem _ h | exact List.mem_cons_of_mem _ (List.mem_cons_of_mem _ h) | (simp at h ⊢; simp [h])) ?_
            refine ws_store rfl rfl rfl rfl (by first | exact .inl (by assumption) | exact .inr (by simp)) (fun _ h _ => by first | (cases h; done) | exact List.mem_cons_of_mem _ h | exact List.mem_cons_of_mem _ (List.mem_cons_of_mem _ h) | (simp at h ⊢; simp [h])) ?_
            refine ws_late rfl ?_
            refine ws_store rfl rfl rfl rfl (by first | exact .inl (by assumption) | exact .inr (by simp)) (fun _ h _ => by first | (cases h; done) | exact List.mem_cons_of_mem _ h | exact List.mem_cons_of_mem _ (List.mem_cons_of_mem _ h) | (simp at h ⊢; simp [h])) ?_
            refine ws_nil ?_
            exact qe_sub (hrest (b10, b11, b12) ⟨hb10, hb11, hb12⟩) rfl
        ·
          refine ws_alloc rfl rfl rfl ?_
          intro b12 hb12
          refine od_go ?_
          refine od_b ?_ ?_
          ·
            refine ws_callp rfl rfl rfl rfl rfl (En.go) (fun w hp hn ho => of_ref _ w) ?_
            refine od_go ?_
            refine od_b ?_ ?_
            ·
              refine ws_callp rfl rfl rfl rfl rfl (En.go) (fun w hp hn ho => public_ret _ w) ?_
              refine od_go ?_
              refine od_seq ?_
              refine ws_alloc rfl rfl rfl ?_
              intro b11 hb11
              refine ws_store rfl rfl rfl rfl (by first | exact .inl (by assumption) | exact .inr (by simp)) (fun _ h _ => by first | (cases h; done) | exact List.mem_cons_of_mem _ h | exact List.mem_cons_of_mem _ (List.mem_cons_of_mem _ h) | (simp at h ⊢; simp [h])) ?_
              refine ws_store rfl rfl rfl rfl (by first | exact .inl (by assumption) | exact .inr (by simp)) (fun _ h _ => by first | (cases h; done) | exact List.mem_cons_of_mem _ h | exact List.mem_cons_of_mem _ (List.mem_cons_of_mem _ h) | (simp at h ⊢; simp [h])) ?_
              refine ws_late rfl ?_
              refine ws_store rfl rfl rfl rfl (by first | exact .inl (by assumption) | exact .inr (by simp)) (fun _ h _ => by first | (cases h; done) | exact List.mem_cons_of_mem _ h | exact List.mem_cons_of_mem _ (List.mem_cons_of_mem _ h) | (simp at h ⊢; simp [h])) ?_
              refine ws_nil ?_
              exact qe_sub (hrest (b10, b11, b12) ⟨hb10, hb11, hb12⟩) rfl
            ·
              refine ws_alloc rfl rfl rfl ?_
              intro b11 hb11
              refine od_go ?_
              refine od_seq ?_
              refine ws_callp rfl rfl rfl rfl rfl (En.go) (fun w hp hn ho => public_ret _ w) ?_
              refine ws_store rfl rfl rfl rfl (by first | exact .inl (by assumption) | exact .inr (by simp)) (fun _ h _ => by first | (cases h; done) | exact List.mem_cons_of_mem _ h | exact List.mem_cons_of_mem _ (List.mem_cons_of_mem _ h) | (simp at h ⊢; simp [h])) ?_
              refine ws_store rfl rfl rfl rfl (by first | exact .inl (by assumption) | exact .inr (by simp)) (fun _ h _ => by first | (cases h; done) | exact List.mem_cons_of_mem _ h | exact List.mem_cons_of_mem _ (List.mem_cons_of_mem _ h) | (simp at h ⊢; simp [h])) ?_
              refine ws_late rfl ?_
              refine ws_store rfl rfl rfl rfl (by first | exact .inl (by assumption) | exact .inr (by simp)) (fun _ h _ => by first | (cases h; done) | exact List.mem_cons_of_mem _ h | exact List.mem_cons_of_mem _ (List.mem_cons_of_mem _ h) | (simp at h ⊢; simp [h])) ?_
              refine ws_nil ?_
              exact qe_sub (hrest (b10, b11, b12) ⟨hb10, hb11, hb12⟩) rfl
          ·
            refine ws_alloc rfl rfl rfl ?_
            intro b11 hb11
            refine od_go ?_
            refine od_seq ?_
            refine ws_callp rfl rfl rfl rfl rfl (En.go) (fun w hp hn ho => of_ref _ w) ?_
            refine ws_callp rfl rfl rfl rfl rfl (En.go) (fun w hp hn ho => public_ret _ w) ?_
            refine ws_store rfl rfl rfl rfl (by first | exact .inl (by assumption) | exact .inr (by simp)) (fun _ h _ => by first | (cases h; done) | exact List.mem_cons_of_mem _ h | exact List.mem_cons_of_mem _ (List.mem_cons_of_mem _ h) | (simp at h ⊢; simp [h])) ?_
            refine ws_store rfl rfl rfl rfl (by first | exact .inl (by assumption) | exact .inr (by simp)) (fun _ h _ => by first | (cases h; done) | exact List.mem_cons_of_mem _ h | exact List.mem_cons_of_mem _ (List.mem_cons_of_mem _ h) | (simp at h ⊢; simp [h])) ?_
            refine ws_late rfl ?_
            refine ws_store rfl rfl rfl rfl (by first | exact .inl (by assumption) | exact .inr (by simp)) (fun _ h _ => by first | (cases h; done) | exact List.mem_cons_of_mem _ h | exact List.mem_cons_of_mem _ (List.mem_cons_of_mem _ h) | (simp at h ⊢; simp [h])) ?_
            refine ws_nil ?_
            exact qe_sub (hrest (b10, b11, b12) ⟨hb10, hb11, hb12⟩) rfl
      ·
        refine ws_alloc rfl rfl rfl ?_
        intro b11 hb11
        refine od_go ?_
        refine od_b ?_ ?_
        ·
          refine ws_callp rfl rfl rfl rfl rfl (En.go) (fun w hp hn ho => public_ret _ w) ?_
          refine od_go ?_
          refine od_b ?_ ?_
          ·
            refine ws_callp rfl rfl rfl rfl rfl (En.go) (fun w hp hn ho => of_ref _ w) ?_
            refine od_go ?_
            refine od_b ?_ ?_
            ·
              refine ws_callp rfl rfl rfl rfl rfl (En.go) (fun w hp hn ho => public_ret _ w) ?_
              refine od_go ?_
              refine od_seq ?_
              refine ws_alloc rfl rfl rfl ?_
              intro b12 hb12
              refine ws_store rfl rfl rfl rfl (by first | exact .inl (by assumption) | exact .inr (by simp)) (fun _ h _ => by first | (cases h; done) | exact List.mem_cons_of_mem _ h | exact List.mem_cons_of_mem _ (List.mem_cons_of_mem _ h) | (simp at h ⊢; simp [h])) ?_
              refine ws_store rfl rfl rfl rfl (by first | exact .inl (by assumption) | exact .inr (by simp)) (fun _ h _ => by first | (cases h; done) | exact List.mem_cons_of_mem _ h | exact List.mem_cons_of_mem _ (List.mem_cons_of_mem _ h) | (simp at h ⊢; simp [h])) ?_
              refine ws_late rfl ?_
              refine ws_store rfl rfl rfl rfl (by first | exact .inl (by assumption) | exact .inr (by simp)) (fun _ h _ => by first | (cases h; done) | exact List.mem_cons_of_mem _ h | exact List.mem_cons_of_mem _ (List.mem_cons_of_mem _ h) | (simp at h ⊢; simp [h])) ?_
              refine ws_nil ?_
              exact qe_sub (hrest (b10, b11, b12) ⟨hb10, hb11, hb12⟩) rfl
            ·
              refine ws_alloc rfl rfl rfl ?_
              intro b12 hb12
              refine od_go ?_
              refine od_seq ?_
              refine ws_callp rfl rfl rfl rfl rfl (En.go) (fun w hp hn ho => public_ret _ w) ?_
              refine ws_store rfl rfl rfl rfl (by first | exact .inl (by assumption) | exact .inr (by simp)) (fun _ h _ => by first | (cases h; done) | exact List.mem_cons_of_mem _ h | exact List.mem_cons_of_mem _ (List.mem_cons_of_mem _ h) | (simp at h ⊢; simp [h])) ?_
              refine ws_store rfl rfl rfl rfl (by first | exact .inl (by assumption) | exact .inr (by simp)) (fun _ h _ => by first | (cases h; done) | exact List.mem_cons_of_mem _ h | exact List.mem_cons_of_mem _ (List.mem_cons_of_mem _ h) | (simp at h ⊢; simp [h])) ?_
              refine ws_late rfl ?_
              refine ws_store rfl rfl rfl rfl (by first | exact .inl (by assumption) | exact .inr (by simp)) (fun _ h _ => by first | (cases h; done) | exact List.mem_cons_of_mem _ h | exact List.mem_cons_of_mem _ (List.mem_cons_of_mem _ h) | (simp at h ⊢; simp [h])) ?_
              refine ws_nil ?_
              exact qe_sub (hrest (b10, b11, b12) ⟨hb10, hb11, hb12⟩) rfl
          ·
            refine ws_alloc rfl rfl rfl ?_
            intro b12 hb12
            refine od_go ?_
            refine od_seq ?_
            refine ws_callp rfl rfl rfl rfl rfl (En.go) (fun w hp hn ho => of_ref _ w) ?_
            refine ws_callp rfl rfl rfl rfl rfl (En.go) (fun w hp hn ho => public_ret _ w) ?_
            refine ws_store rfl rfl rfl rfl (by first | exact .inl (by assumption) | exact .inr (by simp)) (fun _ h _ => by first | (cases h; done) | exact List.mem_cons_of_mem _ h | exact List.mem_cons_of_mem _ (List.mem_cons_of_mem _ h) | (simp at h ⊢; simp [h])) ?_
            refine ws_store rfl rfl rfl rfl (by first | exact .inl (by assumption) | exact .inr (by simp)) (fun _ h _ => by first | (cases h; done) | exact List.mem_cons_of_mem _ h | exact List.mem_cons_of_mem _ (List.mem_cons_of_mem _ h) | (simp at h ⊢; simp [h])) ?_
            refine ws_late rfl ?_
            refine ws_store rfl rfl rfl rfl (by first | exact .inl (by assumption) | exact .inr (by simp)) (fun _ h _ => by first | (cases h; done) | exact List.mem_cons_of_mem _ h | exact List.mem_cons_of_mem _ (List.mem_cons_of_mem _ h) | (simp at h ⊢; simp [h])) ?_
            refine ws_nil ?_
            exact qe_sub (hrest (b10, b11, b12) ⟨hb10, hb11, hb12⟩) rfl
        ·
          refine ws_alloc rfl rfl rfl ?_
          intro b12 hb12
          refine od_go ?_
          refine od_seq ?_
          refine ws_callp rfl rfl rfl rfl rfl (En.go) (fun w hp hn ho => public_ret _ w) ?_
          refine ws_callp rfl rfl rfl rfl rfl (En.go) (fun w hp hn ho => of_ref _ w) ?_
          refine ws_callp rfl rfl rfl rfl rfl (En.go) (fun w hp hn ho => public_ret _ w) ?_
          refine ws_store rfl rfl rfl rfl (by first | exact .inl (by assumption) | exact .inr (by simp)) (fun _ h _ => by first | (cases h; done) | exact List.mem_cons_of_mem _ h | exact List.mem_cons_of_mem _ (List.mem_cons_of_mem _ h) | (simp at h ⊢; simp [h])) ?_
          refine ws_store rfl rfl rfl rfl (by first | exact .inl (by assumption) | exact .inr (by simp)) (fun _ h _ => by first | (cases h; done) | exact List.mem_cons_of_mem _ h | exact List.mem_cons_of_mem _ (List.mem_cons_of_mem _ h) | (simp at h ⊢; simp [h])) ?_
          refine ws_late rfl ?_
          refine ws_store rfl rfl rfl rfl (by first | exact .inl (by assumption) | exact .inr (by simp)) (fun _ h _ => by first | (cases h; done) | exact List.mem_cons_of_mem _ h | exact List.mem_cons_of_mem _ (List.mem_cons_of_mem _ h) | (simp at h ⊢; simp [h])) ?_
          refine ws_nil ?_
          exact qe_sub (hrest (b10, b11, b12) ⟨hb10, hb11, hb12⟩) rfl
      ·
        refine ws_alloc rfl rfl rfl ?_
        intro b12 hb12
        refine od_go ?_
        refine od_b ?_ ?_
        ·
          refine ws_callp rfl rfl rfl rfl rfl (En.go) (fun w hp hn ho => public_ret _ w) ?_
          refine od_go ?_
          refine od_b ?_ ?_
          ·
            refine ws_callp rfl rfl rfl rfl rfl (En.go) (fun w hp hn ho => of_ref _ w) ?_
            refine od_go ?_
            refine od_b ?_ ?_
            ·
              refine ws_callp rfl rfl rfl rfl rfl (En.go) (fun w hp hn ho => public_ret _ w) ?_
              refine od_go ?_
              refine od_seq ?_
              refine ws_alloc rfl rfl rfl ?_
              intro b11 hb11
              refine ws_store rfl rfl rfl rfl (by first | exact .inl (by assumption) | exact .inr (by simp)) (fun _ h _ => by first | (cases h; done) | exact List.mem_cons_of_mem _ h | exact List.mem_cons_of_mem _ (List.mem_cons_of_mem _ h) | (simp at h ⊢; simp [h])) ?_
              refine ws_store rfl rfl rfl rfl (by first | exact .inl (by assumption) | exact .inr (by simp)) (fun _ h _ => by first | (cases h; done) | exact List.mem_cons_of_mem _ h | exact List.mem_cons_of_mem _ (List.mem_cons_of_mem _ h) | (simp at h ⊢; simp [h])) ?_
              refine ws_late rfl ?_
              refine ws_store rfl rfl rfl rfl (by first | exact .inl (by assumption) | exact .inr (by simp)) (fun _ h _ => by first | (cases h; done) | exact List.mem_cons_of_mem _ h | exact List.mem_cons_of_mem _ (List.mem_cons_of_mem _ h) | (simp at h ⊢; simp [h])) ?_
              refine ws_nil ?_
              exact qe_sub (hrest (b10, b11, b12) ⟨hb10, hb11, hb12⟩) rfl
            ·
              refine ws_alloc rfl rfl rfl ?_
              intro b11 hb11
              refine od_go ?_
              refine od_seq ?_
              refine ws_callp rfl rfl rfl rfl rfl (En.go) (fun w hp hn ho => public_ret _ w) ?_
              refine ws_store rfl rfl rfl rfl (by first | exact .inl (by assumption) | exact .inr (by simp)) (fun _ h _ => by first | (cases h; done) | exact List.mem_cons_of_mem _ h | exact List.mem_cons_of_mem _ (List.mem_cons_of_mem _ h) | (simp at h ⊢; simp [h])) ?_
              refine ws_store rfl rfl rfl rfl (by first | exact .inl (by assumption) | exact .inr (by simp)) (fun _ h _ => by first | (cases h; done) | exact List.mem_cons_of_mem _ h | exact List.mem_cons_of_mem _ (List.mem_cons_of_mem _ h) | (simp at h ⊢; simp [h])) ?_
              refine ws_late rfl ?_
              refine ws_store rfl rfl rfl rfl (by first | exact .inl (by assumption) | exact .inr (by simp)) (fun _ h _ => by first | (cases h; done) | exact List.mem_cons_of_mem _ h | exact List.mem_cons_of_mem _ (List.mem_cons_of_mem _ h) | (simp at h ⊢; simp [h])) ?_
              refine ws_nil ?_
              exact qe_sub (hrest (b10, b11, b12) ⟨hb10, hb11, hb12⟩) rfl
          ·
            refine ws_alloc rfl rfl rfl ?_
            intro b11 hb11
            refine od_go ?_
            refine od_seq ?_
            refine ws_callp rfl rfl rfl rfl rfl (En.go) (fun w hp hn ho => of_ref _ w) ?_
            refine ws_callp rfl rfl rfl rfl rfl (En.go) (fun w hp hn ho => public_ret _ w) ?_
            refine ws_store rfl rfl rfl rfl (by first | exact .inl (by assumption) | exact .inr (by simp)) (fun _ h _ => by first | (cases h; done) | exact List.mem_cons_of_mem _ h | exact List.mem_cons_of_mem _ (List.mem_cons_of_mem _ h) | (simp at h ⊢; simp [h])) ?_
            refine ws_store rfl rfl rfl rfl (by first | exact .inl (by assumption) | exact .inr (by simp)) (fun _ h _ => by first | (cases h; done) | exact List.mem_cons_of_mem _ h | exact List.mem_cons_of_mem _ (List.mem_cons_of_mem _ h) | (simp at h ⊢; simp [h])) ?_
            refine ws_late rfl ?_
            refine ws_store rfl rfl rfl rfl (by first | exact .inl (by assumption) | exact .inr (by simp)) (fun _ h _ => by first | (cases h; done) | exact List.mem_cons_of_mem _ h | exact List.mem_cons_of_mem _ (List.mem_cons_of_mem _ h) | (simp at h ⊢; simp [h])) ?_
            refine ws_nil ?_
            exact qe_sub (hrest (b10, b11, b12) ⟨hb10, hb11, hb12⟩) rfl
        ·
          refine ws_alloc rfl rfl rfl ?_
          intro b11 hb11
          refine od_go ?_
          refine od_seq ?_
          refine ws_callp rfl rfl rfl rfl rfl (En.go) (fun w hp hn ho => public_ret _ w) ?_
          refine ws_callp rfl rfl rfl rfl rfl (En.go) (fun w hp hn ho => of_ref _ w) ?_
          refine ws_callp rfl rfl rfl rfl rfl (En.go) (fun w hp hn ho => public_ret _ w) ?_
          refine ws_store rfl rfl rfl rfl (by first | exact .inl (by assumption) | exact .inr (by simp)) (fun _ h _ => by first | (cases h; done) | exact List.mem_cons_of_mem _ h | exact List.mem_cons_of_mem _ (List.mem_cons_of_mem _ h) | (simp at h ⊢; simp [h])) ?_
          refine ws_store rfl rfl rfl rfl (by first | exact .inl (by assumption) | exact .inr (by simp)) (fun _ h _ => by first | (cases h; done) | exact List.mem_cons_of_mem _ h | exact List.mem_cons_of_mem _ (List.mem_cons_of_mem _ h) | (simp at h ⊢; simp [h])) ?_
          refine ws_late rfl ?_
          refine ws_store rfl rfl rfl rfl (by first | exact .inl (by assumption) | exact .inr (by simp)) (fun _ h _ => by first | (cases h; done) | exact List.mem_cons_of_mem _ h | exact List.mem_cons_of_mem _ (List.mem_cons_of_mem _ h) | (simp at h ⊢; simp [h])) ?_
          refine ws_nil ?_
          exact qe_sub (hrest (b10, b11, b12) ⟨hb10, hb11, hb12⟩) rfl
    ·
      refine ws_alloc rfl rfl rfl ?_
      intro b11 hb11
      refine od_go ?_
      refine od_b3 ?_ ?_ ?_
      ·
        refine ws_callp rfl rfl rfl rfl rfl (En.go) (fun w hp hn ho => public_ret _ w) ?_
        refine od_go ?_
        refine od_b3 ?_ ?_ ?_
        ·
          refine ws_callp rfl rfl rfl rfl rfl (En.go) (fun w hp hn ho => of_ref _ w) ?_
          refine od_go ?_
          refine od_b3 ?_ ?_ ?_
          ·
            refine ws_callp rfl rfl rfl rfl rfl (En.go) (fun w hp hn ho => public_ret _ w) ?_
            refine od_go ?_
            refine od_b ?_ ?_
            ·
              refine ws_alloc rfl rfl rfl ?_
              intro b10 hb10
              refine od_go ?_
              refine od_seq ?_
              refine ws_alloc rfl rfl rfl ?_
              intro b12 hb12
              refine ws_store rfl rfl rfl rfl (by first | exact .inl (by assumption) | exact .inr (by simp)) (fun _ h _ => by first | (cases h; done) | exact List.mem_cons_of_mem _ h | exact List.mem_cons_of_mem _ (List.mem_cons_of_mem _ h) | (simp at h ⊢; simp [h])) ?_
              refine ws_store rfl rfl rfl rfl (by first | exact .inl (by assumption) | exact .inr (by simp)) (fun _ h _ => by first | (cases h; done) | exact List.mem_cons_of_mem _ h | exact List.mem_cons_of_mem _ (List.mem_cons_of_mem _ h) | (simp at h ⊢; simp [h])) ?_
              refine ws_late rfl ?_
              refine ws_store rfl rfl rfl rfl (by first | exact .inl (by assumption) | exact .inr (by simp)) (fun _ h _ => by first | (cases h; done) | exact List.mem_cons_of_mem _ h | exact List.mem_cons_of_mem _ (List.mem_cons_of_mem _ h) | (simp at h ⊢; simp [h])) ?_
              refine ws_nil ?_
              exact qe_sub (hrest (b10, b11, b12) ⟨hb10, hb11, hb12⟩) rfl
            ·
              refine ws_alloc rfl rfl rfl ?_
              intro b12 hb12
              refine od_go ?_
              refine od_seq ?_
              refine ws_alloc rfl rfl rfl ?_
              intro b10 hb10
              refine ws_store rfl rfl rfl rfl (by first | exact .inl (by assumption) | exact .inr (by simp)) (fun _ h _ => by first | (cases h; done) | exact List.mem_cons_of_mem _ h | exact List.mem_cons_of_mem _ (List.mem_cons_of_mem _ h) | (simp at h ⊢; simp [h])) ?_
              refine ws_store rfl rfl rfl rfl (by first | exact .inl (by assumption) | exact .inr (by simp)) (fun _ h _ => by first | (cases h; done) | exact List.mem_cons_of_mem _ h | exact List.mem_cons_of_mem _ (List.mem_cons_of_mem _ h) | (simp at h ⊢; simp [h])) ?_
              refine ws_late rfl ?_
              refine ws_store rfl rfl rfl rfl (by first | exact .inl (by assumption) | exact .inr (by simp)) (fun _ h _ => by first | (cases h; done) | exact List.mem_cons_of_mem _ h | exact List.mem_cons_of_mem _ (List.mem_cons_of_mem _ h) | (simp at h ⊢; simp [h])) ?_
              refine ws_nil ?_
              exact qe_sub (hrest (b10, b11, b12) ⟨hb10, hb11, hb12⟩) rfl
          ·
            refine ws_alloc rfl rfl rfl ?_
            intro b10 hb10
            refine od_go ?_
            refine od_b ?_ ?_
            ·
              refine ws_callp rfl rfl rfl rfl rfl (En.go) (fun w hp hn ho => public_ret _ w) ?_
              refine od_go ?_
              refine od_seq ?_
              refine ws_alloc rfl rfl rfl ?_
              intro b12 hb12
              refine ws_store rfl rfl rfl rfl (by first | exact .inl (by assumption) | exact .inr (by simp)) (fun _ h _ => by first | (cases h; done) | exact List.mem_cons_of_mem _ h | exact List.mem_cons_of_mem _ (List.mem_cons_of_mem _ h) | (simp at h ⊢; simp [h])) ?_
              refine ws_store rfl rfl rfl rfl (by first | exact .inl (by assumption) | exact .inr (by simp)) (fun _ h _ => by first | (cases h; done) | exact List.mem_cons_of_mem _ h | exact List.mem_cons_of_mem _ (List.mem_cons_of_mem _ h) | (simp at h ⊢; simp [h])) ?_
              refine ws_late rfl ?_
              refine ws_store rfl rfl rfl rfl (by first | exact .inl (by assumption) | exact .inr (by simp)) (fun _ h _ => by first | (cases h; done) | exact List.mem_cons_of_mem _ h | exact List.mem_cons_of_mem _ (List.mem_cons_of_mem _ h) | (simp at h ⊢; simp [h])) ?_
              refine ws_nil ?_
              exact qe_sub (hrest (b10, b11, b12) ⟨hb10, hb11, hb12⟩) rfl
            ·
              refine ws_alloc rfl rfl rfl ?_
              intro b12 hb12
              refine od_go ?_
              refine od_seq ?_
              refine ws_callp rfl rfl rfl rfl rfl (En.go) (fun w hp hn ho => public_ret _ w) ?_
              refine ws_store rfl rfl rfl rfl (by first | exact .inl (by assumption) | exact .inr (by simp)) (fun _ h _ => by first | (cases h; done) | exact List.mem_cons_of_mem _ h | exact List.mem_cons_of_mem _ (List.mem_cons_of_mem _ h) | (simp at h ⊢; simp [h])) ?_
              refine ws_store rfl rfl rfl rfl (by first | exact .inl (by assumption) | exact .inr (by simp)) (fun _ h _ => by first | (cases h; done) | exact List.mem_cons_of_mem _ h | exact List.mem_cons_of_mem _ (List.mem_cons_of_mem _ h) | (simp at h ⊢; simp [h])) ?_
              refine ws_late rfl ?_
              refine ws_store rfl rfl rfl rfl (by first | exact .inl (by assumption) | exact .inr (by simp)) (fun _ h _ => by first | (cases h; done) | exact List.mem_cons_of_mem _ h | exact List.mem_cons_of_mem _ (List.mem_cons_of_mem _ h) | (simp at h ⊢; simp [h])) ?_
              refine ws_nil ?_
              exact qe_sub (hrest (b10, b11, b12) ⟨hb10, hb11, hb12⟩) rfl
          ·
            refine ws_alloc rfl rfl rfl ?_
            intro b12 hb12
            refine od_go ?_
            refine od_b ?_ ?_
            ·
              refine ws_callp rfl rfl rfl rfl rfl (En.go) (fun w hp hn ho => public_ret _ w) ?_
              refine od_go ?_
              refine od_seq ?_
              refine ws_alloc rfl rfl rfl ?_
              intro b10 hb10
              refine ws_store rfl rfl rfl rfl (by first | exact .inl (by assumption) | exact .inr (by simp)) (fun _ h _ => by first | (cases h; done) | exact List.mem_cons_of_mem _ h | exact List.mem_cons_of_mem _ (List.mem_cons_of_mem _ h) | (simp at h ⊢; simp [h])) ?_
              refine ws_store rfl rfl rfl rfl (by first | exact .inl (by assumption) | exact .inr (by simp)) (fun _ h _ => by first | (cases h; done) | exact List.mem_cons_of_mem _ h | exact List.mem_cons_of_mem _ (List.mem_cons_of_mem _ h) | (simp at h ⊢; simp [h])) ?_
              refine ws_late rfl ?_
              refine ws_store rfl rfl rfl rfl (by first | exact .inl (by assumption) | exact .inr (by simp)) (fun _ h _ => by first | (cases h; done) | exact List.mem_cons_of_mem _ h | exact List.mem_cons_of_mem _ (List.mem_cons_of_mem _ h) | (simp at h ⊢; simp [h])) ?_
              refine ws_nil ?_
              exact qe_sub (hrest (b10, b11, b12) ⟨hb10, hb11, hb12⟩) rfl
            ·
              refine ws_alloc rfl rfl rfl ?_
              intro b10 hb10
              refine od_go ?_
              refine od_seq ?_
              refine ws_callp rfl rfl rfl rfl rfl (En.go) (fun w hp hn ho => public_ret _ w) ?_
              refine ws_store rfl rfl rfl rfl (by first | exact .inl (by assumption) | exact .inr (by simp)) (fun _ h _ => by first | (cases h; done) | exact List.mem_cons_of_mem _ h | exact List.mem_cons_of_mem _ (List.mem_cons_of_mem _ h) | (simp at h ⊢; simp [h])) ?_
              refine ws_store rfl rfl rfl rfl (by first | exact .inl (by assumption) | exact .inr (by simp)) (fun _ h _ => by first | (cases h; done) | exact List.mem_cons_of_mem _ h | exact List.mem_cons_of_mem _ (List.mem_cons_of_mem _ h) | (simp at h ⊢; simp [h])) ?_
              refine ws_late rfl ?_
              refine ws_store rfl rfl rfl rfl (by first | exact .inl (by assumption) | exact .inr (by simp)) (fun _ h _ => by first | (cases h; done) | exact List.mem_cons_of_mem _ h | exact List.mem_cons_of_mem _ (List.mem_cons_of_mem _ h) | (simp at h ⊢; simp [h])) ?_
              refine ws_nil ?_
              exact qe_sub (hrest (b10, b11, b12) ⟨hb10, hb11, hb12⟩) rfl
        ·
          refine ws_alloc rfl rfl rfl ?_
          intro b10 hb10
          refine od_go ?_
          refine od_b ?_ ?_
          ·
            refine ws_callp rfl rfl rfl rfl rfl (En.go) (fun w hp hn ho => of_ref _ w) ?_
            refine od_go ?_
            refine od_b ?_ ?_
            ·
              refine ws_callp rfl rfl rfl rfl rfl (En.go) (fun w hp hn ho => public_ret _ w) ?_
              refine od_go ?_
              refine od_seq ?_
              refine ws_alloc rfl rfl rfl ?_
              intro b12 hb12
              refine ws_store rfl rfl rfl rfl (by first | exact .inl (by assumption) | exact .inr (by simp)) (fun _ h _ => by first | (cases h; done) | exact List.mem_cons_of_mem _ h | exact List.mem_cons_of_mem _ (List.mem_cons_of_mem _ h) | (simp at h ⊢; simp [h])) ?_
              refine ws_store rfl rfl rfl rfl (by first | exact .inl (by assumption) | exact .inr (by simp)) (fun _ h _ => by first | (cases h; done) | exact List.mem_cons_of_mem _ h | exact List.mem_cons_of_mem _ (List.mem_cons_of_mem _ h) | (simp at h ⊢; simp [h])) ?_
              refine ws_late rfl ?_
              refine ws_store rfl rfl rfl rfl (by first | exact .inl (by assumption) | exact .inr (by simp)) (fun _ h _ => by first | (cases h; done) | exact List.mem_cons_of_mem _ h | exact List.mem_cons_of_mem _ (List.mem_cons_of_mem _ h) | (simp at h ⊢; simp [h])) ?_
              refine ws_nil ?_
              exact qe_sub (hrest (b10, b11, b12) ⟨hb10, hb11, hb12⟩) rfl
            ·
              refine ws_alloc rfl rfl rfl ?_
              intro b12 hb12
              refine od_go ?_
              refine od_seq ?_
              refine ws_callp rfl rfl rfl rfl rfl (En.go) (fun w hp hn ho => public_ret _ w) ?_
              refine ws_store rfl rfl rfl rfl (by first | exact .inl (by assumption) | exact .inr (by simp)) (fun _ h _ => by first | (cases h; done) | exact List.mem_cons_of_mem _ h | exact List.mem_cons_of_mem _ (List.mem_cons_of_mem _ h) | (simp at h ⊢; simp [h])) ?_
              refine ws_store rfl rfl rfl rfl (by first | exact .inl (by assumption) | exact .inr (by simp)) (fun _ h _ => by first | (cases h; done) | exact List.mem_cons_of_mem _ h | exact List.mem_cons_of_mem _ (List.mem_cons_of_mem _ h) | (simp at h ⊢; simp [h])) ?_
              refine ws_late rfl ?_
              refine ws_store rfl rfl rfl rfl (by first | exact .inl (by assumption) | exact .inr (by simp)) (fun _ h _ => by first | (cases h; done) | exact List.mem_cons_of_mem _ h | exact List.mem_cons_of_mem _ (List.mem_cons_of_mem _ h) | (simp at h ⊢; simp [h])) ?_
              refine ws_nil ?_
              exact qe_sub (hrest (b10, b11, b12) ⟨hb10, hb11, hb12⟩) rfl
          ·
            refine ws_alloc rfl rfl rfl ?_
            intro b12 hb12
            refine od_go ?_
            refine od_seq ?_
            refine ws_callp rfl rfl rfl rfl rfl (En.go) (fun w hp hn ho => of_ref _ w) ?_
            refine ws_callp rfl rfl rfl rfl rfl (En.go) (fun w hp hn ho => public_ret _ w) ?_
            refine ws_store rfl rfl rfl rfl (by first | exact .inl (by assumption) | exact .inr (by simp)) (fun _ h _ => by first | (cases h; done) | exact List.mem_cons_of_mem _ h | exact List.mem_cons_of_mem _ (List.mem_cons_of_mem _ h) | (simp at h ⊢; simp [h])) ?_
            refine ws_store rfl rfl rfl rfl (by first | exact .inl (by assumption) | exact .inr (by simp)) (fun _ h _ => by first | (cases h; done) | exact List.mem_cons_of_mem _ h | exact List.mem_cons_of_mem _ (List.mem_cons_of_mem _ h) | (simp at h ⊢; simp [h])) ?_
            refine ws_late rfl ?_
            refine ws_store rfl rfl rfl rfl (by first | exact .inl (by assumption) | exact .inr (by simp)) (fun _ h _ => by first | (cases h; done) | exact List.mem_cons_of_mem _ h | exact List.mem_cons_of_mem _ (List.mem_cons_of_mem _ h) | (simp at h ⊢; simp [h])) ?_
            refine ws_nil ?_
            exact qe_sub (hrest (b10, b11, b12) ⟨hb10, hb11, hb12⟩) rfl
        ·
          refine ws_alloc rfl rfl rfl ?_
          intro b12 hb12
          refine od_go ?_
          refine od_b ?_ ?_
          ·
            refine ws_callp rfl rfl rfl rfl rfl (En.go) (fun w hp hn ho => of_ref _ w) ?_
            refine od_go ?_
            refine od_b ?_ ?_
            ·
              refine ws_callp rfl rfl rfl rfl rfl (En.go) (fun w hp hn ho => public_ret _ w) ?_
              refine od_go ?_
              refine od_seq ?_
              refine ws_alloc rfl rfl rfl ?_
              intro b10 hb10
              refine ws_store rfl rfl rfl rfl (by first | exact .inl (by assumption) | exact .inr (by simp)) (fun _ h _ => by first | (cases h; done) | exact List.mem_cons_of_mem _ h | exact List.mem_cons_of_mem _ (List.mem_cons_of_mem _ h) | (simp at h ⊢; simp [h])) ?_
              refine ws_store rfl rfl rfl rfl (by first | exact .inl (by assumption) | exact .inr (by simp)) (fun _ h _ => by first | (cases h; done) | exact List.mem_cons_of_mem _ h | exact List.mem_cons_of_mem _ (List.mem_cons_of_mem _ h) | (simp at h ⊢; simp [h])) ?_
              refine ws_late rfl ?_
              refine ws_store rfl rfl rfl rfl (by first | exact .inl (by assumption) | exact .inr (by simp)) (fun _ h _ => by first | (cases h; done) | exact List.mem_cons_of_mem _ h | exact List.mem_cons_of_mem _ (List.mem_cons_of_mem _ h) | (simp at h ⊢; simp [h])) ?_
              refine ws_nil ?_
              exact qe_sub (hrest (b10, b11, b12) ⟨hb10, hb11, hb12⟩) rfl
            ·
              refine ws_alloc rfl rfl rfl ?_
              intro b10 hb10
              refine od_go ?_
              refine od_seq ?_
              refine ws_callp rfl rfl rfl rfl rfl (En.go) (fun w hp hn ho => public_ret _ w) ?_
              refine ws_store rfl rfl rfl rfl (by first | exact .inl (by assumption) | exact .inr (by simp)) (fun _ h _ => by first | (cases h; done) | exact List.mem_cons_of_mem _ h | exact List.mem_cons_of_mem _ (List.mem_cons_of_mem _ h) | (simp at h ⊢; simp [h])) ?_
              refine ws_store rfl rfl rfl rfl (by first | exact .inl (by assumption) | exact .inr (by simp)) (fun _ h _ => by first | (cases h; done) | exact List.mem_cons_of_mem _ h | exact List.mem_cons_of_mem _ (List.mem_cons_of_mem _ h) | (simp at h ⊢; simp [h])) ?_
              refine ws_late rfl ?_
              refine ws_store rfl rfl rfl rfl (by first | exact .inl (by assumption) | exact .inr (by simp)) (fun _ h _ => by first | (cases h; done) | exact List.mem_cons_of_mem _ h | exact List.mem_cons_of_mem _ (List.mem_cons_of_mem _ h) | (simp at h ⊢; simp [h])) ?_
              refine ws_nil ?_
              exact qe_sub (hrest (b10, b11, b12) ⟨hb10, hb11, hb12⟩) rfl
          ·
            refine ws_alloc rfl rfl rfl ?_
            intro b10 hb10
            refine od_go ?_
            refine od_seq ?_
            refine ws_callp rfl rfl rfl rfl rfl (En.go) (fun w hp hn ho => of_ref _ w) ?_
            refine ws_callp rfl rfl rfl rfl rfl (En.go) (fun w hp hn ho => public_ret _ w) ?_
            refine ws_store rfl rfl rfl rfl (by first | exact .inl (by assumption) | exact .inr (by simp)) (fun _ h _ => by first | (cases h; done) | exact List.mem_cons_of_mem _ h | exact List.mem_cons_of_mem _ (List.mem_cons_of_mem _ h) | (simp at h ⊢; simp [h])) ?_
            refine ws_store rfl rfl rfl rfl (by first | exact .inl (by assumption) | exact .inr (by simp)) (fun _ h _ => by first | (cases h; done) | exact List.mem_cons_of_mem _ h | exact List.mem_cons_of_mem _ (List.mem_cons_of_mem _ h) | (simp at h ⊢; simp [h])) ?_
            refine ws_late rfl ?_
            refine ws_store rfl rfl rfl rfl (by first | exact .inl (by assumption) | exact .inr (by simp)) (fun _ h _ => by first | (cases h; done) | exact List.mem_cons_of_mem _ h | exact List.mem_cons_of_mem _ (List.mem_cons_of_mem _ h) | (simp at h ⊢; simp [h])) ?_
            refine ws_nil ?_
            exact qe_sub (hrest (b10, b11, b12) ⟨hb10, hb11, hb12⟩) rfl
      ·
        refine ws_alloc rfl rfl rfl ?_
        intro b10 hb10
        refine od_go ?_
        refine od_b ?_ ?_
        ·
          refine ws_callp rfl rfl rfl rfl rfl (En.go) (fun w hp hn ho => public_ret _ w) ?_
          refine od_go ?_
          refine od_b ?_ ?_
          ·
            refine ws_callp rfl rfl rfl rfl rfl (En.go) (fun w hp hn ho => of_ref _ w) ?_
            refine od_go ?_
            refine od_b ?_ ?_
            ·
              refine ws_callp rfl rfl rfl rfl rfl (En.go) (fun w hp hn ho => public_ret _ w) ?_
              refine od_go ?_
              refine od_seq ?_
              refine ws_alloc rfl rfl rfl ?_
              intro b12 hb12
              refine ws_store rfl rfl rfl rfl (by first | exact .inl (by assumption) | exact .inr (by simp)) (fun _ h _ => by first | (cases h; done) | exact List.mem_cons_of_mem _ h | exact List.mem_cons_of_mem _ (List.mem_cons_of_mem _ h) | (simp at h ⊢; simp [h])) ?_
              refine ws_store rfl rfl rfl rfl (by first | exact .inl (by assumption) | exact .inr (by simp)) (fun _ h _ => by first | (cases h; done) | exact List.mem_cons_of_mem _ h | exact List.mem_cons_of_mem _ (List.mem_cons_of_mem _ h) | (simp at h ⊢; simp [h])) ?_
              refine ws_late rfl ?_
              refine ws_store rfl rfl rfl rfl (by first | exact .inl (by assumption) | exact .inr (by simp)) (fun _ h _ => by first | (cases h; done) | exact List.mem_cons_of_mem _ h | exact List.mem_cons_of_mem _ (List.mem_cons_of_mem _ h) | (simp at h ⊢; simp [h])) ?_
              refine ws_nil ?_
              exact qe_sub (hrest (b10, b11, b12) ⟨hb10, hb11, hb12⟩) rfl
            ·
              refine ws_alloc rfl rfl rfl ?_
              intro b12 hb12
              refine od_go ?_
              refine od_seq ?_
              refine ws_callp rfl rfl rfl rfl rfl (En.go) (fun w hp hn ho => public_ret _ w) ?_
              refine ws_store rfl rfl rfl rfl (by first | exact .inl (by assumption) | exact .inr (by simp)) (fun _ h _ => by first | (cases h; done) | exact List.mem_cons_of_mem _ h | exact List.mem_cons_of_mem _ (List.mem_cons_of_mem _ h) | (simp at h ⊢; simp [h])) ?_
              refine ws_store rfl rfl rfl rfl (by first | exact .inl (by assumption) | exact .inr (by simp)) (fun _ h _ => by first | (cases h; done) | exact List.mem_cons_of_mem _ h | exact List.mem_cons_of_mem _ (List.mem_cons_of_mem _ h) | (simp at h ⊢; simp [h])) ?_
              refine ws_late rfl ?_
              refine ws_store rfl rfl rfl rfl (by first | exact .inl (by assumption) | exact .inr (by simp)) (fun _ h _ => by first | (cases h; done) | exact List.mem_cons_of_mem _ h | exact List.mem_cons_of_mem _ (List.mem_cons_of_mem _ h) | (simp at h ⊢; simp [h])) ?_
              refine ws_nil ?_
              exact qe_sub (hrest (b10, b11, b12) ⟨hb10, hb11, hb12⟩) rfl
          ·
            refine ws_alloc rfl rfl rfl ?_
            intro b12 hb12
            refine od_go ?_
            refine od_seq ?_
            refine ws_callp rfl rfl rfl rfl rfl (En.go) (fun w hp hn ho => of_ref _ w) ?_
            refine ws_callp rfl rfl rfl rfl rfl (En.go) (fun w hp hn ho => public_ret _ w) ?_
            refine ws_store rfl rfl rfl rfl (by first | exact .inl (by assumption) | exact .inr (by simp)) (fun _ h _ => by first | (cases h; done) | exact List.mem_cons_of_mem _ h | exact List.mem_cons_of_mem _ (List.mem_cons_of_mem _ h) | (simp at h ⊢; simp [h])) ?_
            refine ws_store rfl rfl rfl rfl (by first | exact .inl (by assumption) | exact .inr (by simp)) (fun _ h _ => by first | (cases h; done) | exact List.mem_cons_of_mem _ h | exact List.mem_cons_of_mem _ (List.mem_cons_of_mem _ h) | (simp at h ⊢; simp [h])) ?_
            refine ws_late rfl ?_
            refine ws_store rfl rfl rfl rfl (by first | exact .inl (by assumption) | exact .inr (by simp)) (fun _ h _ => by first | (cases h; done) | exact List.mem_cons_of_mem _ h | exact List.mem_cons_of_mem _ (List.mem_cons_of_mem _ h) | (simp at h ⊢; simp [h])) ?_
            refine ws_nil ?_
            exact qe_sub (hrest (b10, b11, b12) ⟨hb10, hb11, hb12⟩) rfl
        ·
          refine ws_alloc rfl rfl rfl ?_
          intro b12 hb12
          refine od_go ?_
          refine od_seq ?_
          refine ws_callp rfl rfl rfl rfl rfl (En.go) (fun w hp hn ho => public_ret _ w) ?_
          refine ws_callp rfl rfl rfl rfl rfl (En.go) (fun w hp hn ho => of_ref _ w) ?_
          refine ws_callp rfl rfl rfl rfl rfl (En.go) (fun w hp hn ho => public_ret _ w) ?_
          refine ws_store rfl rfl rfl rfl (by first | exact .inl (by assumption) | exact .inr (by simp)) (fun _ h _ => by first | (cases h; done) | exact List.mem_cons_of_mem _ h | exact List.mem_cons_of_mem _ (List.mem_cons_of_mem _ h) | (simp at h ⊢; simp [h])) ?_
          refine ws_store rfl rfl rfl rfl (by first | exact .inl (by assumption) | exact .inr (by simp)) (fun _ h _ => by first | (cases h; done) | exact List.mem_cons_of_mem _ h | exact List.mem_cons_of_mem _ (List.mem_cons_of_mem _ h) | (simp at h ⊢; simp [h])) ?_
          refine ws_late rfl ?_
          refine ws_store rfl rfl rfl rfl (by first | exact .inl (by assumption) | exact .inr (by simp)) (fun _ h _ => by first | (cases h; done) | exact List.mem_cons_of_mem _ h | exact List.mem_cons_of_mem _ (List.mem_cons_of_mem _ h) | (simp at h ⊢; simp [h])) ?_
          refine ws_nil ?_
          exact qe_sub (hrest (b10, b11, b12) ⟨hb10, hb11, hb12⟩) rfl
      ·
        refine ws_alloc rfl rfl rfl ?_
        intro b12 hb12
        refine od_go ?_
        refine od_b ?_ ?_
        ·
          refine ws_callp rfl rfl rfl rfl rfl (En.go) (fun w hp hn ho => public_ret _ w) ?_
          refine od_go ?_
          refine od_b ?_ ?_
          ·
            refine ws_callp rfl rfl rfl rfl rfl (En.go) (fun w hp hn ho => of_ref _ w) ?_
            refine od_go ?_
            refine od_b ?_ ?_
            ·
              refine ws_callp rfl rfl rfl rfl rfl (En.go) (fun w hp hn ho => public_ret _ w) ?_
              refine od_go ?_
              refine od_seq ?_
              refine ws_alloc rfl rfl rfl ?_
              intro b10 hb10
              refine ws_store rfl rfl rfl rfl (by first | exact .inl (by assumption) | exact .inr (by simp)) (fun _ h _ => by first | (cases h; done) | exact List.mem_cons_of_mem _ h | exact List.mem_cons_of_mem _ (List.mem_cons_of_mem _ h) | (simp at h ⊢; simp [h])) ?_
              refine ws_store rfl rfl rfl rfl (by first | exact .inl (by assumption) | exact .inr (by simp)) (fun _ h _ => by first | (cases h; done) | exact List.mem_cons_of_mem _ h | exact List.mem_cons_of_mem _ (List.mem_cons_of_mem _ h) | (simp at h ⊢; simp [h])) ?_
              refine ws_late rfl ?_
              refine ws_store rfl rfl rfl rfl (by first | exact .inl (by assumption) | exact .inr (by simp)) (fun _ h _ => by first | (cases h; done) | exact List.mem_cons_of_mem _ h | exact List.mem_cons_of_mem _ (List.mem_cons_of_mem _ h) | (simp at h ⊢; simp [h])) ?_
              refine ws_nil ?_
              exact qe_sub (hrest (b10, b11, b12) ⟨hb10, hb11, hb12⟩) rfl
            ·
              refine ws_alloc rfl rfl rfl ?_
              intro b10 hb10
              refine od_go ?_
              refine od_seq ?_
              refine ws_callp rfl rfl rfl rfl rfl (En.go) (fun w hp hn ho => public_ret _ w) ?_
              refine ws_store rfl rfl rfl rfl (by first | exact .inl (by assumption) | exact .inr (by simp)) (fun _ h _ => by first | (cases h; done) | exact List.mem_cons_of_mem _ h | exact List.mem_cons_of_mem _ (List.mem_cons_of_mem _ h) | (simp at h ⊢; simp [h])) ?_
              refine ws_store rfl rfl rfl rfl (by first | exact .inl (by assumption) | exact .inr (by simp)) (fun _ h _ => by first | (cases h; done) | exact List.mem_cons_of_mem _ h | exact List.mem_cons_of_mem _ (List.mem_cons_of_mem _ h) | (simp at h ⊢; simp [h])) ?_
              refine ws_late rfl ?_
              refine ws_store rfl rfl rfl rfl (by first | exact .inl (by assumption) | exact .inr (by simp)) (fun _ h _ => by first | (cases h; done) | exact List.mem_cons_of_mem _ h | exact List.mem_cons_of_mem _ (List.mem_cons_of_mem _ h) | (simp at h ⊢; simp [h])) ?_
              refine ws_nil ?_
              exact qe_sub (hrest (b10, b11, b12) ⟨hb10, hb11, hb12⟩) rfl
          ·
            refine ws_alloc rfl rfl rfl ?_
            intro b10 hb10
            refine od_go ?_
            refine od_seq ?_
            refine ws_callp rfl rfl rfl rfl rfl (En.go) (fun w hp hn ho => of_ref _ w) ?_
            refine ws_callp rfl rfl rfl rfl rfl (En.go) (fun w hp hn ho => public_ret _ w) ?_
            refine ws_store rfl rfl rfl rfl (by first | exact .inl (by assumption) | exact .inr (by simp)) (fun _ h _ => by first | (cases h; done) | exact List.mem_cons_of_mem _ h | exact List.mem_cons_of_mem _ (List.mem_cons_of_mem _ h) | (simp at h ⊢; simp [h])) ?_
            refine ws_store rfl rfl rfl rfl (by first | exact .inl (by assumption) | exact .inr (by simp)) (fun _ h _ => by first | (cases h; done) | exact List.mem_cons_of_mem _ h | exact List.mem_cons_of_mem _ (List.mem_cons_of_mem _ h) | (simp at h ⊢; simp [h])) ?_
            refine ws_late rfl ?_
            refine ws_store rfl rfl rfl rfl (by first | exact .inl (by assumption) | exact .inr (by simp)) (fun _ h _ => by first | (cases h; done) | exact List.mem_cons_of_mem _ h | exact List.mem_cons_of_mem _ (List.mem_cons_of_mem _ h) | (simp at h ⊢; simp [h])) ?_
            refine ws_nil ?_
            exact qe_sub (hrest (b10, b11, b12) ⟨hb10, hb11, hb12⟩) rfl
        ·
          refine ws_alloc rfl rfl rfl ?_
          intro b10 hb10
          refine od_go ?_
          refine od_seq ?_
          refine ws_callp rfl rfl rfl rfl rfl (En.go) (fun w hp hn ho => public_ret _ w) ?_
          refine ws_callp rfl rfl rfl rfl rfl (En.go) (fun w hp hn ho => of_ref _ w) ?_
          refine ws_callp rfl rfl rfl rfl rfl (En.go) (fun w hp hn ho => public_ret _ w) ?_
          refine ws_store rfl rfl rfl rfl (by first | exact .inl (by assumption) | exact .inr (by simp)) (fun _ h _ => by first | (cases h; done) | exact List.mem_cons_of_mem _ h | exact List.mem_cons_of_mem _ (List.mem_cons_of_mem _ h) | (simp at h ⊢; simp [h])) ?_
          refine ws_store rfl rfl rfl rfl (by first | exact .inl (by assumption) | exact .inr (by simp)) (fun _ h _ => by first | (cases h; done) | exact List.mem_cons_of_mem _ h | exact List.mem_cons_of_mem _ (List.mem_cons_of_mem _ h) | (simp at h ⊢; simp [h])) ?_
          refine ws_late rfl ?_
          refine ws_store rfl rfl rfl rfl (by first | exact .inl (by assumption) | exact .inr (by simp)) (fun _ h _ => by first | (cases h; done) | exact List.mem_cons_of_mem _ h | exact List.mem_cons_of_mem _ (List.mem_cons_of_mem _ h) | (simp at h ⊢; simp [h])) ?_
          refine ws_nil ?_
          exact qe_sub (hrest (b10, b11, b12) ⟨hb10, hb11, hb12⟩) rfl
    ·
      refine ws_alloc rfl rfl rfl ?_
      intro b12 hb12
      refine od_go ?_
      refine od_b3 ?_ ?_ ?_
      ·
        refine ws_callp rfl rfl rfl rfl rfl (En.go) (fun w hp hn ho => public_ret _ w) ?_
        refine od_go ?_
        refine od_b3 ?_ ?_ ?_
        ·
          refine ws_callp rfl rfl rfl rfl rfl (En.go) (fun w hp hn ho => of_ref _ w) ?_
          refine od_go ?_
          refine od_b3 ?_ ?_ ?_
          ·
            refine ws_callp rfl rfl rfl rfl rfl (En.go) (fun w hp hn ho => public_ret _ w) ?_
            refine od_go ?_
            refine od_b ?_ ?_
            ·
              refine ws_alloc rfl rfl rfl ?_
              intro b10 hb10
              refine od_go ?_
              refine od_seq ?_
              refine ws_alloc rfl rfl rfl ?_
              intro b11 hb11
              refine ws_store rfl rfl rfl rfl (by first | exact .inl (by assumption) | exact .inr (by simp)) (fun _ h _ => by first | (cases h; done) | exact List.mem_cons_of_mem _ h | exact List.mem_cons_of_mem _ (List.mem_cons_of_mem _ h) | (simp at h ⊢; simp [h])) ?_
              refine ws_store rfl rfl rfl rfl (by first | exact .inl (by assumption) | exact .inr (by simp)) (fun _ h _ => by first | (cases h; done) | exact List.mem_cons_of_mem _ h | exact List.mem_cons_of_mem _ (List.mem_cons_of_mem _ h) | (simp at h ⊢; simp [h])) ?_
              refine ws_late rfl ?_
              refine ws_store rfl rfl rfl rfl (by first | exact .inl (by assumption) | exact .inr (by simp)) (fun _ h _ => by first | (cases h; done) | exact List.mem_cons_of_mem _ h | exact List.mem_cons_of_mem _ (List.mem_cons_of_mem _ h) | (simp at h ⊢; simp [h])) ?_
              refine ws_nil ?_
              exact qe_sub (hrest (b10, b11, b12) ⟨hb10, hb11, hb12⟩) rfl
            ·
              refine ws_alloc rfl rfl rfl ?_
              intro b11 hb11
              refine od_go ?_
              refine od_seq ?_
              refine ws_alloc rfl rfl rfl ?_
              intro b10 hb10
              refine ws_store rfl rfl rfl rfl (by first | exact .inl (by assumption) | exact .inr (by simp)) (fun _ h _ => by first | (cases h; done) | exact List.mem_cons_of_mem _ h | exact List.mem_cons_of_mem _ (List.mem_cons_of_mem _ h) | (simp at h ⊢; simp [h])) ?_
              refine ws_store rfl rfl rfl rfl (by first | exact .inl (by assumption) | exact .inr (by simp)) (fun _ h _ => by first | (cases h; done) | exact List.mem_cons_of_mem _ h | exact List.mem_cons_of_mem _ (List.mem_cons_of_mem _ h) | (simp at h ⊢; simp [h])) ?_
              refine ws_late rfl ?_
              refine ws_store rfl rfl rfl rfl (by first | exact .inl (by assumption) | exact .inr (by simp)) (fun _ h _ => by first | (cases h; done) | exact List.mem_cons_of_mem _ h | exact List.mem_cons_of_mem _ (List.mem_cons_of_mem _ h) | (simp at h ⊢; simp [h])) ?_
              refine ws_nil ?_
              exact qe_sub (hrest (b10, b11, b12) ⟨hb10, hb11, hb12⟩) rfl
          ·
            refine ws_alloc rfl rfl rfl ?_
            intro b10 hb10
            refine od_go ?_
            refine od_b ?_ ?_
            ·
              refine ws_callp rfl rfl rfl rfl rfl (En.go) (fun w hp hn ho => public_ret _ w) ?_
              refine od_go ?_
              refine od_seq ?_
              refine ws_alloc rfl rfl rfl ?_
              intro b11 hb11
              refine ws_store rfl rfl rfl rfl (by first | exact .inl (by assumption) | exact .inr (by simp)) (fun _ h _ => by first | (cases h; done) | exact List.mem_cons_of_mem _ h | exact List.mem_cons_of_mem _ (List.mem_cons_of_mem _ h) | (simp at h ⊢; simp [h])) ?_
              refine ws_store rfl rfl rfl rfl (by first | exact .inl (by assumption) | exact .inr (by simp)) (fun _ h _ => by first | (cases h; done) | exact List.mem_cons_of_mem _ h | exact List.mem_cons_of_mem _ (List.mem_cons_of_mem _ h) | (simp at h ⊢; simp [h])) ?_
              refine ws_late rfl ?_
              refine ws_store rfl rfl rfl rfl (by first | exact .inl (by assumption) | exact .inr (by simp)) (fun _ h _ => by first | (cases h; done) | exact List.mem_cons_of_mem _ h | exact List.mem_cons_of_mem _ (List.mem_cons_of_mem _ h) | (simp at h ⊢; simp [h])) ?_
              refine ws_nil ?_
              exact qe_sub (hrest (b10, b11, b12) ⟨hb10, hb11, hb12⟩) rfl
            ·
              refine ws_alloc rfl rfl rfl ?_
              intro b11 hb11
              refine od_go ?_
              refine od_seq ?_
              refine ws_callp rfl rfl rfl rfl rfl (En.go) (fun w hp hn ho => public_ret _ w) ?_
              refine ws_store rfl rfl rfl rfl (by first | exact .inl (by assumption) | exact .inr (by simp)) (fun _ h _ => by first | (cases h; done) | exact List.mem_cons_of_mem _ h | exact List.mem_cons_of_mem _ (List.mem_cons_of_mem _ h) | (simp at h ⊢; simp [h])) ?_
              refine ws_store rfl rfl rfl rfl (by first | exact .inl (by assumption) | exact .inr (by simp)) (fun _ h _ => by first | (cases h; done) | exact List.mem_cons_of_mem _ h | exact List.mem_cons_of_mem _ (List.mem_cons_of_mem _ h) | (simp at h ⊢; simp [h])) ?_
              refine ws_late rfl ?_
              refine ws_store rfl rfl rfl rfl (by first | exact .inl (by assumption) | exact .inr (by simp)) (fun _ h _ => by first | (cases h; done) | exact List.mem_cons_of_mem _ h | exact List.mem_cons_of_mem _ (List.mem_cons_of_mem _ h) | (simp at h ⊢; simp [h])) ?_
              refine ws_nil ?_
              exact qe_sub (hrest (b10, b11, b12) ⟨hb10, hb11, hb12⟩) rfl
          ·
            refine ws_alloc rfl rfl rfl ?_
            intro b11 hb11
            refine od_go ?_
            refine od_b ?_ ?_
            ·
              refine ws_callp rfl rfl rfl rfl rfl (En.go) (fun w hp hn ho => public_ret _ w) ?_
              refine od_go ?_
              refine od_seq ?_
              refine ws_alloc rfl rfl rfl ?_
              intro b10 hb10
              refine ws_store rfl rfl rfl rfl (by first | exact .inl (by assumption) | exact .inr (by simp)) (fun _ h _ => by first | (cases h; done) | exact List.mem_cons_of_mem _ h | exact List.mem_cons_of_mem _ (List.mem_cons_of_mem _ h) | (simp at h ⊢; simp [h])) ?_
              refine ws_store rfl rfl rfl rfl (by first | exact .inl (by assumption) | exact .inr (by simp)) (fun _ h _ => by first | (cases h; done) | exact List.mem_cons_of_mem _ h | exact List.mem_cons_of_mem _ (List.mem_cons_of_mem _ h) | (simp at h ⊢; simp [h])) ?_
              refine ws_late rfl ?_
              refine ws_store rfl rfl rfl rfl (by first | exact .inl (by assumption) | exact .inr (by simp)) (fun _ h _ => by first | (cases h; done) | exact List.mem_cons_of_mem _ h | exact List.mem_cons_of_mem _ (List.mem_cons_of_mem _ h) | (simp at h ⊢; simp [h])) ?_
              refine ws_nil ?_
              exact qe_sub (hrest (b10, b11, b12) ⟨hb10, hb11, hb12⟩) rfl
            ·
              refine ws_alloc rfl rfl rfl ?_
              intro b10 hb10
              refine od_go ?_
              refine od_seq ?_
              refine ws_callp rfl rfl rfl rfl rfl (En.go) (fun w hp hn ho => public_ret _ w) ?_
              refine ws_store rfl rfl rfl rfl (by first | exact .inl (by assumption) | exact .inr (by simp)) (fun _ h _ => by first | (cases h; done) | exact List.mem_cons_of_mem _ h | exact List.mem_cons_of_mem _ (List.mem_cons_of_mem _ h) | (simp at h ⊢; simp [h])) ?_
              refine ws_store rfl rfl rfl rfl (by first | exact .inl (by assumption) | exact .inr (by simp)) (fun _ h _ => by first | (cases h; done) | exact List.mem_cons_of_mem _ h | exact List.mem_cons_of_mem _ (List.mem_cons_of_mem _ h) | (simp at h ⊢; simp [h])) ?_
              refine ws_late rfl ?_
              refine ws_store rfl rfl rfl rfl (by first | exact .inl (by assumption) | exact .inr (by simp)) (fun _ h _ => by first | (cases h; done) | exact List.mem_cons_of_mem _ h | exact List.mem_cons_of_mem _ (List.mem_cons_of_mem _ h) | (simp at h ⊢; simp [h])) ?_
              refine ws_nil ?_
              exact qe_sub (hrest (b10, b11, b12) ⟨hb10, hb11, hb12⟩) rfl
        ·
          refine ws_alloc rfl rfl rfl ?_
          intro b10 hb10
          refine od_go ?_
          refine od_b ?_ ?_
          ·
            refine ws_callp rfl rfl rfl rfl rfl (En.go) (fun w hp hn ho => of_ref _ w) ?_
            refine od_go ?_
            refine od_b ?_ ?_
            ·
              refine ws_callp rfl rfl rfl rfl rfl (En.go) (fun w hp hn ho => public_ret _ w) ?_
              refine od_go ?_
              refine od_seq ?_
              refine ws_alloc rfl rfl rfl ?_
              intro b11 hb11
              refine ws_store rfl rfl rfl rfl (by first | exact .inl (by assumption) | exact .inr (by simp)) (fun _ h _ => by first | (cases h; done) | exact List.mem_cons_of_mem _ h | exact List.mem_cons_of_mem _ (List.mem_cons_of_mem _ h) | (simp at h ⊢; simp [h])) ?_
              refine ws_store rfl rfl rfl rfl (by first | exact .inl (by assumption) | exact .inr (by simp)) (fun _ h _ => by first | (cases h; done) | exact List.mem_cons_of_mem _ h | exact List.mem_cons_of_mem _ (List.mem_cons_of_mem _ h) | (simp at h ⊢; simp [h])) ?_
              refine ws_late rfl ?_
              refine ws_store rfl rfl rfl rfl (by first | exact .inl (by assumption) | exact .inr (by simp)) (fun _ h _ => by first | (cases h; done) | exact List.mem_cons_of_mem _ h | exact List.mem_cons_of_mem _ (List.mem_cons_of_mem _ h) | (simp at h ⊢; simp [h])) ?_
              refine ws_nil ?_
              exact qe_sub (hrest (b10, b11, b12) ⟨hb10, hb11, hb12⟩) rfl
            ·
              refine ws_alloc rfl rfl rfl ?_
              intro b11 hb11
              refine od_go ?_
              refine od_seq ?_
              refine ws_callp rfl rfl rfl rfl rfl (En.go) (fun w hp hn ho => public_ret _ w) ?_
              refine ws_store rfl rfl rfl rfl (by first | exact .inl (by assumption) | exact .inr (by simp)) (fun _ h _ => by first | (cases h; done) | exact List.mem_cons_of_mem _ h | exact List.mem_cons_of_mem _ (List.mem_cons_of_mem _ h) | (simp at h ⊢; simp [h])) ?_
              refine ws_store rfl rfl rfl rfl (by first | exact .inl (by assumption) | exact .inr (by simp)) (fun _ h _ => by first | (cases h; done) | exact List.mem_cons_of_mem _ h | exact List.mem_cons_of_mem _ (List.mem_cons_of_mem _ h) | (simp at h ⊢; simp [h])) ?_
              refine ws_late rfl ?_
              refine ws_store rfl rfl rfl rfl (by first | exact .inl (by assumption) | exact .inr (by simp)) (fun _ h _ => by first | (cases h; done) | exact List.mem_cons_of_mem _ h | exact List.mem_cons_of_mem _ (List.mem_cons_of_mem _ h) | (simp at h ⊢; simp [h])) ?_
              refine ws_nil ?_
              exact qe_sub (hrest (b10, b11, b12) ⟨hb10, hb11, hb12⟩) rfl
          ·
            refine ws_alloc rfl rfl rfl ?_
            intro b11 hb11
            refine od_go ?_
            refine od_seq ?_
            refine ws_callp rfl rfl rfl rfl rfl (En.go) (fun w hp hn ho => of_ref _ w) ?_
            refine ws_callp rfl rfl rfl rfl rfl (En.go) (fun w hp hn ho => public_ret _ w) ?_
            refine ws_store rfl rfl rfl rfl (by first | exact .inl (by assumption) | exact .inr (by simp)) (fun _ h _ => by first | (cases h; done) | exact List.mem_cons_of_mem _ h | exact List.mem_cons_of_mem _ (List.mem_cons_of_mem _ h) | (simp at h ⊢; simp [h])) ?_
            refine ws_store rfl rfl rfl rfl (by first | exact .inl (by assumption) | exact .inr (by simp)) (fun _ h _ => by first | (cases h; done) | exact List.mem_cons_of_mem _ h | exact List.mem_cons_of_mem _ (List.mem_cons_of_mem _ h) | (simp at h ⊢; simp [h])) ?_
            refine ws_late rfl ?_
            refine ws_store rfl rfl rfl rfl (by first | exact .inl (by assumption) | exact .inr (by simp)) (fun _ h _ => by first | (cases h; done) | exact List.mem_cons_of_mem _ h | exact List.mem_cons_of_mem _ (List.mem_cons_of_mem _ h) | (simp at h ⊢; simp [h])) ?_
            refine ws_nil ?_
            exact qe_sub (hrest (b10, b11, b12) ⟨hb10, hb11, hb12⟩) rfl
        ·
          refine ws_alloc rfl rfl rfl ?_
          intro b11 hb11
          refine od_go ?_
          refine od_b ?_ ?_
          ·
            refine ws_callp rfl rfl rfl rfl rfl (En.go) (fun w hp hn ho => of_ref _ w) ?_
            refine od_go ?_
            refine od_b ?_ ?_
            ·
              refine ws_callp rfl rfl rfl rfl rfl (En.go) (fun w hp hn ho => public_ret _ w) ?_
              refine od_go ?_
              refine od_seq ?_
              refine ws_alloc rfl rfl rfl ?_
              intro b10 hb10
              refine ws_store rfl rfl rfl rfl (by first | exact .inl (by assumption) | exact .inr (by simp)) (fun _ h _ => by first | (cases h; done) | exact List.mem_cons_of_mem _ h | exact List.mem_cons_of_mem _ (List.mem_cons_of_mem _ h) | (simp at h ⊢; simp [h])) ?_
              refine ws_store rfl rfl rfl rfl (by first | exact .inl (by assumption) | exact .inr (by simp)) (fun _ h _ => by first | (cases h; done) | exact List.mem_cons_of_mem _ h | exact List.mem_cons_of_mem _ (List.mem_cons_of_mem _ h) | (simp at h ⊢; simp [h])) ?_
              refine ws_late rfl ?_
              refine ws_store rfl rfl rfl rfl (by first | exact .inl (by assumption) | exact .inr (by simp)) (fun _ h _ => by first | (cases h; done) | exact List.mem_cons_of_mem _ h | exact List.mem_cons_of_mem _ (List.mem_cons_of_mem _ h) | (simp at h ⊢; simp [h])) ?_
              refine ws_nil ?_
              exact qe_sub (hrest (b10, b11, b12) ⟨hb10, hb11, hb12⟩) rfl
            ·
              refine ws_alloc rfl rfl rfl ?_
              intro b10 hb10
              refine od_go ?_
              refine od_seq ?_
              refine ws_callp rfl rfl rfl rfl rfl (En.go) (fun w hp hn ho => public_ret _ w) ?_
              refine ws_store rfl rfl rfl rfl (by first | exact .inl (by assumption) | exact .inr (by simp)) (fun _ h _ => by first | (cases h; done) | exact List.mem_cons_of_mem _ h | exact List.mem_cons_of_mem _ (List.mem_cons_of_mem _ h) | (simp at h ⊢; simp [h])) ?_
              refine ws_store rfl rfl rfl rfl (by first | exact .inl (by assumption) | exact .inr (by simp)) (fun _ h _ => by first | (cases h; done) | exact List.mem_cons_of_mem _ h | exact List.mem_cons_of_mem _ (List.mem_cons_of_mem _ h) | (simp at h ⊢; simp [h])) ?_
              refine ws_late rfl ?_
              refine ws_store rfl rfl rfl rfl (by first | exact .inl (by assumption) | exact .inr (by simp)) (fun _ h _ => by first | (cases h; done) | exact List.mem_cons_of_mem _ h | exact List.mem_cons_of_mem _ (List.mem_cons_of_mem _ h) | (simp at h ⊢; simp [h])) ?_
              refine ws_nil ?_
              exact qe_sub (hrest (b10, b11, b12) ⟨hb10, hb11, hb12⟩) rfl
          ·
            refine ws_alloc rfl rfl rfl ?_
            intro b10 hb10
            refine od_go ?_
            refine od_seq ?_
            refine ws_callp rfl rfl rfl rfl rfl (En.go) (fun w hp hn ho => of_ref _ w) ?_
            refine ws_callp rfl rfl rfl rfl rfl (En.go) (fun w hp hn ho => public_ret _ w) ?_
            refine ws_store rfl rfl rfl rfl (by first | exact .inl (by assumption) | exact .inr (by simp)) (fun _ h _ => by first | (cases h; done) | exact List.mem_cons_of_mem _ h | exact List.mem_cons_of_mem _ (List.mem_cons_of_mem _ h) | (simp at h ⊢; simp [h])) ?_
            refine ws_store rfl rfl rfl rfl (by first | exact .inl (by assumption) | exact .inr (by simp)) (fun _ h _ => by first | (cases h; done) | exact List.mem_cons_of_mem _ h | exact List.mem_cons_of_mem _ (List.mem_cons_of_mem _ h) | (simp at h ⊢; simp [h])) ?_
            refine ws_late rfl ?_
            refine ws_store rfl rfl rfl rfl (by first | exact .inl (by assumption) | exact .inr (by simp)) (fun _ h _ => by first | (cases h; done) | exact List.mem_cons_of_mem _ h | exact List.mem_cons_of_mem _ (List.mem_cons_of_mem _ h) | (simp at h ⊢; simp [h])) ?_
            refine ws_nil ?_
            exact qe_sub (hrest (b10, b11, b12) ⟨hb10, hb11, hb12⟩) rfl
      ·
        refine ws_alloc rfl rfl rfl ?_
        intro b10 hb10
        refine od_go ?_
        refine od_b ?_ ?_
        ·
          refine ws_callp rfl rfl rfl rfl rfl (En.go) (fun w hp hn ho => public_ret _ w) ?_
          refine od_go ?_
          refine od_b ?_ ?_
          ·
            refine ws_callp rfl rfl rfl rfl rfl (En.go) (fun w hp hn ho => of_ref _ w) ?_
            refine od_go ?_
            refine od_b ?_ ?_
            ·
              refine ws_callp rfl rfl rfl rfl rfl (En.go) (fun w hp hn ho => public_ret _ w) ?_
              refine od_go ?_
              refine od_seq ?_
              refine ws_alloc rfl rfl rfl ?_
              intro b11 hb11
              refine ws_store rfl rfl rfl rfl (by first | exact .inl (by assumption) | exact .inr (by simp)) (fun _ h _ => by first | (cases h; done) | exact List.mem_cons_of_mem _ h | exact List.mem_cons_of_mem _ (List.mem_cons_of_mem _ h) | (simp at h ⊢; simp [h])) ?_
              refine ws_store rfl rfl rfl rfl (by first | exact .inl (by assumption) | exact .inr (by simp)) (fun _ h _ => by first | (cases h; done) | exact List.mem_cons_of_mem _ h | exact List.mem_cons_of_mem _ (List.mem_cons_of_mem _ h) | (simp at h ⊢; simp [h])) ?_
              refine ws_late rfl ?_
              refine ws_store rfl rfl rfl rfl (by first | exact .inl (by assumption) | exact .inr (by simp)) (fun _ h _ => by first | (cases h; done) | exact List.mem_cons_of_mem _ h | exact List.mem_cons_of_mem _ (List.mem_cons_of_mem _ h) | (simp at h ⊢; simp [h])) ?_
              refine ws_nil ?_
              exact qe_sub (hrest (b10, b11, b12) ⟨hb10, hb11, hb12⟩) rfl
            ·
              refine ws_alloc rfl rfl rfl ?_
              intro b11 hb11
              refine od_go ?_
              refine od_seq ?_
              refine ws_callp rfl rfl rfl rfl rfl (En.go) (fun w hp hn ho => public_ret _ w) ?_
              refine ws_store rfl rfl rfl rfl (by first | exact .inl (by assumption) | exact .inr (by simp)) (fun _ h _ => by first | (cases h; done) | exact List.mem_cons_of_mem _ h | exact List.mem_cons_of_mem _ (List.mem_cons_of_mem _ h) | (simp at h ⊢; simp [h])) ?_
              refine ws_store rfl rfl rfl rfl (by first | exact .inl (by assumption) | exact .inr (by simp)) (fun _ h _ => by first | (cases h; done) | exact List.mem_cons_of_mem _ h | exact List.mem_cons_of_mem _ (List.mem_cons_of_mem _ h) | (simp at h ⊢; simp [h])) ?_
              refine ws_late rfl ?_
              refine ws_store rfl rfl rfl rfl (by first | exact .inl (by assumption) | exact .inr (by simp)) (fun _ h _ => by first | (cases h; done) | exact List.mem_cons_of_mem _ h | exact List.mem_cons_of_mem _ (List.mem_cons_of_mem _ h) | (simp at h ⊢; simp [h])) ?_
              refine ws_nil ?_
              exact qe_sub (hrest (b10, b11, b12) ⟨hb10, hb11, hb12⟩) rfl
          ·
            refine ws_alloc rfl rfl rfl ?_
            intro b11 hb11
            refine od_go ?_
            refine od_seq ?_
            refine ws_callp rfl rfl rfl rfl rfl (En.go) (fun w hp hn ho => of_ref _ w) ?_
            refine ws_callp rfl rfl rfl rfl rfl (En.go) (fun w hp hn ho => public_ret _ w) ?_
            refine ws_store rfl rfl rfl rfl (by first | exact .inl (by assumption) | exact .inr (by simp)) (fun _ h _ => by first | (cases h; done) | exact List.mem_cons_of_mem _ h | exact List.mem_cons_of_mem _ (List.mem_cons_of_mem _ h) | (simp at h ⊢; simp [h])) ?_
            refine ws_store rfl rfl rfl rfl (by first | exact .inl (by assumption) | exact .inr (by simp)) (fun _ h _ => by first | (cases h; done) | exact List.mem_cons_of_mem _ h | exact List.mem_cons_of_mem _ (List.mem_cons_of_mem _ h) | (simp at h ⊢; simp [h])) ?_
            refine ws_late rfl ?_
            refine ws_store rfl rfl rfl rfl (by first | exact .inl (by assumption) | exact .inr (by simp)) (fun _ h _ => by first | (cases h; done) | exact List.mem_cons_of_mem _ h | exact List.mem_cons_of_mem _ (List.mem_cons_of_mem _ h) | (simp at h ⊢; simp [h])) ?_
            refine ws_nil ?_
            exact qe_sub (hrest (b10, b11, b12) ⟨hb10, hb11, hb12⟩) rfl
        ·
          refine ws_alloc rfl rfl rfl ?_
          intro b11 hb11
          refine od_go ?_
          refine od_seq ?_
          refine ws_callp rfl rfl rfl rfl rfl (En.go) (fun w hp hn ho => public_ret _ w) ?_
          refine ws_callp rfl rfl rfl rfl rfl (En.go) (fun w hp hn ho => of_ref _ w) ?_
          refine ws_callp rfl rfl rfl rfl rfl (En.go) (fun w hp hn ho => public_ret _ w) ?_
          refine ws_store rfl rfl rfl rfl (by first | exact .inl (by assumption) | exact .inr (by simp)) (fun _ h _ => by first | (cases h; done) | exact List.mem_cons_of_mem _ h | exact List.mem_cons_of_mem _ (List.mem_cons_of_mem _ h) | (simp at h ⊢; simp [h])) ?_
          refine ws_store rfl rfl rfl rfl (by first | exact .inl (by assumption) | exact .inr (by simp)) (fun _ h _ => by first | (cases h; done) | exact List.mem_cons_of_mem _ h | exact List.mem_cons_of_mem _ (List.mem_cons_of_mem _ h) | (simp at h ⊢; simp [h])) ?_
          refine ws_late rfl ?_
          refine ws_store rfl rfl rfl rfl (by first | exact .inl (by assumption) | exact .inr (by simp)) (fun _ h _ => by first | (cases h; done) | exact List.mem_cons_of_mem _ h | exact List.mem_cons_of_mem _ (List.mem_cons_of_mem _ h) | (simp at h ⊢; simp [h])) ?_
          refine ws_nil ?_
          exact qe_sub (hrest (b10, b11, b12) ⟨hb10, hb11, hb12⟩) rfl
      ·
        refine ws_alloc rfl rfl rfl ?_
        intro b11 hb11
        refine od_go ?_
        refine od_b ?_ ?_
        ·
          refine ws_callp rfl rfl rfl rfl rfl (En.go) (fun w hp hn ho => public_ret _ w) ?_
          refine od_go ?_
          refine od_b ?_ ?_
          ·
            refine ws_callp rfl rfl rfl rfl rfl (En.go) (fun w hp hn ho => of_ref _ w) ?_
            refine od_go ?_
            refine od_b ?_ ?_
            ·
              refine ws_callp rfl rfl rfl rfl rfl (En.go) (fun w hp hn ho => public_ret _ w) ?_
              refine od_go ?_
              refine od_seq ?_
              refine ws_alloc rfl rfl rfl ?_
              intro b10 hb10
              refine ws_store rfl rfl rfl rfl (by first | exact .inl (by assumption) | exact .inr (by simp)) (fun _ h _ => by first | (cases h; done) | exact List.mem_cons_of_mem _ h | exact List.mem_cons_of_mem _ (List.mem_cons_of_mem _ h) | (simp at h ⊢; simp [h])) ?_
              refine ws_store rfl rfl rfl rfl (by first | exact .inl (by assumption) | exact .inr (by simp)) (fun _ h _ => by first | (cases h; done) | exact List.mem_cons_of_mem _ h | exact List.mem_cons_of_mem _ (List.mem_cons_of_mem _ h) | (simp at h ⊢; simp [h])) ?_
              refine ws_late rfl ?_
              refine ws_store rfl rfl rfl rfl (by first | exact .inl (by assumption) | exact .inr (by simp)) (fun _ h _ => by first | (cases h; done) | exact List.mem_cons_of_mem _ h | exact List.mem_cons_of_mem _ (List.mem_cons_of_mem _ h) | (simp at h ⊢; simp [h])) ?_
              refine ws_nil ?_
              exact qe_sub (hrest (b10, b11, b12) ⟨hb10, hb11, hb12⟩) rfl
            ·
              refine ws_alloc rfl rfl rfl ?_
              intro b10 hb10
              refine od_go ?_
              refine od_seq ?_
              refine ws_callp rfl rfl rfl rfl rfl (En.go) (fun w hp hn ho => public_ret _ w) ?_
              refine ws_store rfl rfl rfl rfl (by first | exact .inl (by assumption) | exact .inr (by simp)) (fun _ h _ => by first | (cases h; done) | exact List.mem_cons_of_mem _ h | exact List.mem_cons_of_mem _ (List.mem_cons_of_mem _ h) | (simp at h ⊢; simp [h])) ?_
              refine ws_store rfl rfl rfl rfl (by first | exact .inl (by assumption) | exact .inr (by simp)) (fun _ h _ => by first | (cases h; done) | exact List.mem_cons_of_mem _ h | exact List.mem_cons_of_mem _ (List.mem_cons_of_mem _ h) | (simp at h ⊢; simp [h])) ?_
              refine ws_late rfl ?_
              refine ws_store rfl rfl rfl rfl (by first | exact .inl (by assumption) | exact .inr (by simp)) (fun _ h _ => by first | (cases h; done) | exact List.mem_cons_of_mem _ h | exact List.mem_cons_of_mem _ (List.mem_cons_of_mem _ h) | (simp at h ⊢; simp [h])) ?_
              refine ws_nil ?_
              exact qe_sub (hrest (b10, b11, b12) ⟨hb10, hb11, hb12⟩) rfl
          ·
            refine ws_alloc rfl rfl rfl ?_
            intro b10 hb10
            refine od_go ?_
            refine od_seq ?_
            refine ws_callp rfl rfl rfl rfl rfl (En.go) (fun w hp hn ho => of_ref _ w) ?_
            refine ws_callp rfl rfl rfl rfl rfl (En.go) (fun w hp hn ho => public_ret _ w) ?_
            refine ws_store rfl rfl rfl rfl (by first | exact .inl (by assumption) | exact .inr (by simp)) (fun _ h _ => by first | (cases h; done) | exact List.mem_cons_of_mem _ h | exact List.mem_cons_of_mem _ (List.mem_cons_of_mem _ h) | (simp at h ⊢; simp [h])) ?_
            refine ws_store rfl rfl rfl rfl (by first | exact .inl (by assumption) | exact .inr (by simp)) (fun _ h _ => by first | (cases h; done) | exact List.mem_cons_of_mem _ h | exact List.mem_cons_of_mem _ (List.mem_cons_of_mem _ h) | (simp at h ⊢; simp [h])) ?_
            refine ws_late rfl ?_
            refine ws_store rfl rfl rfl rfl (by first | exact .inl (by assumption) | exact .inr (by simp)) (fun _ h _ => by first | (cases h; done) | exact List.mem_cons_of_mem _ h | exact List.mem_cons_of_mem _ (List.mem_cons_of_mem _ h) | (simp at h ⊢; simp [h])) ?_
            refine ws_nil ?_
            exact qe_sub (hrest (b10, b11, b12) ⟨hb10, hb11, hb12⟩) rfl
        ·
          refine ws_alloc rfl rfl rfl ?_
          intro b10 hb10
          refine od_go ?_
          refine od_seq ?_
          refine ws_callp rfl rfl rfl rfl rfl (En.go) (fun w hp hn ho => public_ret _ w) ?_
          refine ws_callp rfl rfl rfl rfl rfl (En.go) (fun w hp hn ho => of_ref _ w) ?_
          refine ws_callp rfl rfl rfl rfl rfl (En.go) (fun w hp hn ho => public_ret _ w) ?_
          refine ws_store rfl rfl rfl rfl (by first | exact .inl (by assumption) | exact .inr (by simp)) (fun _ h _ => by first | (cases h; done) | exact List.mem_cons_of_mem _ h | exact List.mem_cons_of_mem _ (List.mem_cons_of_mem _ h) | (simp at h ⊢; simp [h])) ?_
          refine ws_store rfl rfl rfl rfl (by first | exact .inl (by assumption) | exact .inr (by simp)) (fun _ h _ => by first | (cases h; done) | exact List.mem_cons_of_mem _ h | exact List.mem_cons_of_mem _ (List.mem_cons_of_mem _ h) | (simp at h ⊢; simp [h])) ?_
          refine ws_late rfl ?_
          refine ws_store rfl rfl rfl rfl (by first | exact .inl (by assumption) | exact .inr (by simp)) (fun _ h _ => by first | (cases h; done) | exact List.mem_cons_of_mem _ h | exact List.mem_cons_of_mem _ (List.mem_cons_of_mem _ h) | (simp at h ⊢; simp [h])) ?_
          refine ws_nil ?_
          exact qe_sub (hrest (b10, b11, b12) ⟨hb10, hb11, hb12⟩) rfl

end Go.Proofs.Ytheioljidangkaa
