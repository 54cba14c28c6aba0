/- Walk: the schedule of the reference. No conditions. -/
import Derived.Test.YtheioljidangkaaGreatSch
namespace Go.Proofs.YtheioljidangkaaGreat
open Go Go.RowKit Go.Sx
set_option linter.unusedSimpArgs false
set_option linter.unusedVariables false

set_option maxRecDepth 100000 in
set_option maxHeartbeats 4000000 in
theorem sched_ref (b o c : Nat) (cs : Array Value) (E : TypeId) (fr : Nat × Nat) (bs : List UInt8) (hB : BytesAt cs o 64 bs) (w : World) (hη : HpOK [(b, .cells cs E fr)] w) : Ret Tryz.prog 85 [.slice (some ⟨b, o, none⟩) 64 c] w [] (fun r _ => r = wK (schedF bs 64)) := by
  refine enter (n := 86) (args := [.slice (some ⟨b, o, none⟩) 64 c]) [] [(b, .cells cs E fr)] Tryz.func85 rfl rfl rfl hη (by simp) ?_
  refine wc_seq ?_
  refine wc_plain [(0, .x true)] (by kernel_rfl) ?_
  refine ws_alloc rfl rfl rfl ?_
  intro b2 hb2
  refine ws_nil ?_
  refine qe_then ?_
  refine wc_seq ?_
  refine wc_plain [(0, .x true)] (by kernel_rfl) ?_
  refine ws_alloc rfl rfl rfl ?_
  intro b3 hb3
  refine ws_nil ?_
  refine qe_then ?_
  refine wc_seq ?_
  refine wc_seq ?_
  refine wc_plain [(0, .x true)] (by kernel_rfl) ?_
  refine ws_l rfl rfl rfl rfl (rd_assign rfl) ?_
  refine ws_nil ?_
  refine qe_then ?_
  refine wc_block ?_
  refine wc_loop (fun mz ac w1 => ∃ (t : Nat) (W0 : WV 64), mz = 64 - t ∧ (t ≤ 64) ∧ (W0 = schedF bs t) ∧ St 86 w [] [(0, .slice (some ⟨b, o, none⟩) 64 c), (2, ptr b2), (3, ptr b3), (4, I t)] [(b3, .cells (wC W0) 153 (0, 0)), (b2, .cells (wC (w0 64)) 153 (0, 0)), (b, .cells cs E fr)] ac w1) _ (fun ac w1 hs => ⟨0, w0 64, rfl, (by omega), (rfl), st_sub hs _ rfl⟩) ?_
  rintro _ ac1 wl1 ⟨t, W0, rfl, htl, hW0, hs1⟩
  refine wc_at hs1 ?_
  subst hW0
  refine wc_seq ?_
  refine wc_seq ?_
  refine wc_plain [(0, .x true), (1, .x true)] (by kernel_rfl) ?_
  refine ws_l rfl rfl rfl rfl (rd_move rfl) ?_
  refine ws_lcmp rfl rfl rfl (rfl) (rfl) (rfl) ?_ ?_
  · intro h8
    refine ws_nil ?_
    refine qe_then ?_
    refine wc_true rfl ?_
    refine wc_skip ?_
    refine qe_then ?_
    refine wc_seq ?_
    refine wc_block ?_
    refine wc_seq ?_
    refine wc_seq ?_
    refine wc_plain [(0, .x true), (1, .x true)] (by kernel_rfl) ?_
    refine ws_l rfl rfl rfl rfl (rd_move rfl) ?_
    refine ws_lcmp rfl rfl rfl (rfl) (rfl) (rfl) ?_ ?_
    · intro h12
      refine ws_nil ?_
      refine qe_then ?_
      refine wc_true rfl ?_
      refine wc_seq ?_
      refine wc_drawn mixedT _ (fun _ h => h) [(0, .r), (1, .r), (2, .r), (3, .r), (4, .r), (5, .r), (6, .r), (7, .r), (8, .r), (9, .r), (10, .r), (11, .r), (12, .r), (13, .r), (14, .r), (15, .r), (16, .r), (17, .r), (18, .r), (19, .r), (20, .r), (21, .r), (22, .r), (23, .r), (24, .r), (25, .r), (26, .r), (27, .r), (28, .r), (29, .r), (30, .r), (31, .r), (32, .r), (33, .r), (34, .x true), (35, .x true)] (by kernel_rfl) ?_
      have ht : t < 16 := by simp only [cmpP] at h12; omega
      have at0 : GetAt cs (o + (4 * t)) (u8v (bg bs (4 * t))) := b_get hB (by omega)
      have at1 : GetAt cs (o + (4 * t + 1)) (u8v (bg bs (4 * t + 1))) := b_get hB (by omega)
      have at2 : GetAt cs (o + (4 * t + 2)) (u8v (bg bs (4 * t + 2))) := b_get hB (by omega)
      have at3 : GetAt cs (o + (4 * t + 3)) (u8v (bg bs (4 * t + 3))) := b_get hB (by omega)
      have hset := fun x => w_setg (schedF bs t) (j := t) (by omega) x
      refine ws_r rfl rfl rfl rfl (rd_move rfl) ?_
      refine ws_r rfl rfl rfl rfl (rd_move rfl) ?_
      refine ws_r rfl rfl rfl rfl (rd_move rfl) ?_
      refine ws_r rfl rfl rfl rfl (rd_arith (((4 * t : Nat) : Nat) : Int) rfl rfl rfl (by rw [wrap_i64 _ (by omega) (by omega)]; omega)) ?_
      refine ws_r rfl rfl rfl rfl (rd_index (o + (4 * t)) rfl rfl Tryz.underlying87 Tryz.sizeOf5 ⟨by omega, by omega⟩ (by rw [Int.toNat_natCast, Nat.mul_one])) ?_
      refine ws_r rfl rfl rfl rfl (rd_load rfl) ?_
      refine ws_r rfl rfl rfl rfl (rd_conv rfl (run_conv_int _ Tryz.underlying5 Tryz.underlying149 (u8_32 _))) ?_
      refine ws_r rfl rfl rfl rfl (rd_shl _ rfl rfl (by omega) (shl_32 _ 24 (by omega))) ?_
      refine ws_r rfl rfl rfl rfl (rd_move rfl) ?_
      refine ws_r rfl rfl rfl rfl (rd_move rfl) ?_
      refine ws_r rfl rfl rfl rfl (rd_arith (((4 * t : Nat) : Nat) : Int) rfl rfl rfl (by rw [wrap_i64 _ (by omega) (by omega)]; omega)) ?_
      refine ws_r rfl rfl rfl rfl (rd_arith (((4 * t + 1 : Nat) : Nat) : Int) rfl rfl rfl (by rw [wrap_i64 _ (by omega) (by omega)]; omega)) ?_
      refine ws_r rfl rfl rfl rfl (rd_index (o + (4 * t + 1)) rfl rfl Tryz.underlying87 Tryz.sizeOf5 ⟨by omega, by omega⟩ (by rw [Int.toNat_natCast, Nat.mul_one])) ?_
      refine ws_r rfl rfl rfl rfl (rd_load rfl) ?_
      refine ws_r rfl rfl rfl rfl (rd_conv rfl (run_conv_int _ Tryz.underlying5 Tryz.underlying149 (u8_32 _))) ?_
      refine ws_r rfl rfl rfl rfl (rd_shl _ rfl rfl (by omega) (shl_32 _ 16 (by omega))) ?_
      refine ws_r rfl rfl rfl rfl (rd_bits _ rfl rfl (or32 _ _)) ?_
      refine ws_r rfl rfl rfl rfl (rd_move rfl) ?_
      refine ws_r rfl rfl rfl rfl (rd_move rfl) ?_
      refine ws_r rfl rfl rfl rfl (rd_arith (((4 * t : Nat) : Nat) : Int) rfl rfl rfl (by rw [wrap_i64 _ (by omega) (by omega)]; omega)) ?_
      refine ws_r rfl rfl rfl rfl (rd_arith (((4 * t + 2 : Nat) : Nat) : Int) rfl rfl rfl (by rw [wrap_i64 _ (by omega) (by omega)]; omega)) ?_
      refine ws_r rfl rfl rfl rfl (rd_index (o + (4 * t + 2)) rfl rfl Tryz.underlying87 Tryz.sizeOf5 ⟨by omega, by omega⟩ (by rw [Int.toNat_natCast, Nat.mul_one])) ?_
      refine ws_r rfl rfl rfl rfl (rd_load rfl) ?_
      refine ws_r rfl rfl rfl rfl (rd_conv rfl (run_conv_int _ Tryz.underlying5 Tryz.underlying149 (u8_32 _))) ?_
      refine ws_r rfl rfl rfl rfl (rd_shl _ rfl rfl (by omega) (shl_32 _ 8 (by omega))) ?_
      refine ws_r rfl rfl rfl rfl (rd_bits _ rfl rfl (or32 _ _)) ?_
      refine ws_r rfl rfl rfl rfl (rd_move rfl) ?_
      refine ws_r rfl rfl rfl rfl (rd_move rfl) ?_
      refine ws_r rfl rfl rfl rfl (rd_arith (((4 * t : Nat) : Nat) : Int) rfl rfl rfl (by rw [wrap_i64 _ (by omega) (by omega)]; omega)) ?_
      refine ws_r rfl rfl rfl rfl (rd_arith (((4 * t + 3 : Nat) : Nat) : Int) rfl rfl rfl (by rw [wrap_i64 _ (by omega) (by omega)]; omega)) ?_
      refine ws_r rfl rfl rfl rfl (rd_index (o + (4 * t + 3)) rfl rfl Tryz.underlying87 Tryz.sizeOf5 ⟨by omega, by omega⟩ (by rw [Int.toNat_natCast, Nat.mul_one])) ?_
      refine ws_r rfl rfl rfl rfl (rd_load rfl) ?_
      refine ws_r rfl rfl rfl rfl (rd_conv rfl (run_conv_int _ Tryz.underlying5 Tryz.underlying149 (u8_32 _))) ?_
      refine ws_r rfl rfl rfl rfl (rd_bits _ rfl rfl (or32 _ _)) ?_
      refine ws_late rfl ?_
      refine ws_l rfl rfl rfl rfl (rd_ixArr (t) rfl rfl Tryz.underlying153 Tryz.sizeOf149 ⟨by omega, by omega⟩ (by rw [Int.toNat_natCast, Nat.mul_one, Nat.zero_add])) ?_
      refine ws_store rfl rfl rfl rfl (by first | exact .inl (by assumption) | exact .inr (by simp)) (fun _ h _ => by first | (cases h; done) | exact List.mem_cons_of_mem _ h | exact List.mem_cons_of_mem _ (List.mem_cons_of_mem _ h) | (simp at h ⊢; simp [h])) ?_
      rw [sched_lo bs t ht]
      refine ws_nil ?_
      refine qe_then ?_
      refine wc_exit ?_
      refine qe_then_exit ?_
      refine qe_block_exit ?_
      refine qe_then ?_
      refine wc_plain [(0, .x true), (1, .x true), (2, .x true)] (by kernel_rfl) ?_
      refine ws_l rfl rfl rfl rfl (rd_move rfl) ?_
      refine ws_l rfl rfl rfl rfl (rd_arith (((t + 1 : Nat) : Nat) : Int) rfl rfl rfl (by rw [wrap_i64 _ (by omega) (by omega)]; omega)) ?_
      refine ws_l rfl rfl rfl rfl (rd_assign rfl) ?_
      refine ws_nil ?_
      exact qe_loop fun ac2 w2 hs2 => ⟨_, by omega, t + 1, _, rfl, (by simp only [cmpP] at h8; omega), (rfl), st_sub hs2 _ rfl⟩
    · intro h12
      refine ws_nil ?_
      refine qe_then ?_
      refine wc_false rfl ?_
      refine wc_skip ?_
      refine qe_then ?_
      refine wc_seq ?_
      refine wc_drawn mixedT _ (fun _ h => h) [(0, .r), (1, .r), (2, .r), (3, .r), (4, .r), (5, .r), (6, .r), (7, .r), (8, .r), (9, .x true)] (by kernel_rfl) ?_
      have ht : ¬ t < 16 := by simp only [cmpP] at h12; omega
      have ht64 : t < 64 := by simp only [cmpP] at h8; omega
      have ag2 : GetAt (wC (schedF bs t)) (t - 2) (w32 (wg (schedF bs t) (t - 2))) := w_getg _ (by omega)
      have ag7 : GetAt (wC (schedF bs t)) (t - 7) (w32 (wg (schedF bs t) (t - 7))) := w_getg _ (by omega)
      have ag15 : GetAt (wC (schedF bs t)) (t - 15) (w32 (wg (schedF bs t) (t - 15))) := w_getg _ (by omega)
      have ag16 : GetAt (wC (schedF bs t)) (t - 16) (w32 (wg (schedF bs t) (t - 16))) := w_getg _ (by omega)
      have hset := fun x => w_setg (schedF bs t) (j := t) (by omega) x
      refine ws_r rfl rfl rfl rfl (rd_move rfl) ?_
      refine ws_r rfl rfl rfl rfl (rd_arith (((t - 2 : Nat) : Nat) : Int) rfl rfl rfl (by rw [wrap_i64 _ (by omega) (by omega)]; omega)) ?_
      refine ws_r rfl rfl rfl rfl (rd_ixArr (t - 2) rfl rfl Tryz.underlying153 Tryz.sizeOf149 ⟨by omega, by omega⟩ (by rw [Int.toNat_natCast, Nat.mul_one, Nat.zero_add])) ?_
      refine ws_r rfl rfl rfl rfl (rd_load rfl) ?_
      refine ws_r rfl rfl rfl rfl (rd_move rfl) ?_
      refine ws_r rfl rfl rfl rfl (rd_arith (((t - 15 : Nat) : Nat) : Int) rfl rfl rfl (by rw [wrap_i64 _ (by omega) (by omega)]; omega)) ?_
      refine ws_r rfl rfl rfl rfl (rd_ixArr (t - 15) rfl rfl Tryz.underlying153 Tryz.sizeOf149 ⟨by omega, by omega⟩ (by rw [Int.toNat_natCast, Nat.mul_one, Nat.zero_add])) ?_
      refine ws_r rfl rfl rfl rfl (rd_load rfl) ?_
      refine ws_r rfl rfl rfl rfl (rd_assign rfl) ?_
      refine ws_late rfl ?_
      refine ws_l rfl rfl rfl rfl (rd_assign rfl) ?_
      refine ws_nil ?_
      refine qe_then ?_
      refine wc_drawn mixedT _ (fun _ h => h) [(0, .r), (1, .r), (3, .r), (6, .r), (7, .r), (9, .r), (10, .r), (11, .r), (12, .r), (14, .r), (16, .r), (19, .r), (20, .r), (23, .r), (24, .r), (25, .r), (26, .r), (2, .x false), (4, .x false), (5, .r), (8, .r), (13, .r), (15, .x false), (17, .x false), (18, .r), (21, .r), (22, .r), (27, .r), (28, .x true), (29, .x true)] (by kernel_rfl) ?_
      refine ws_r rfl rfl rfl rfl (rd_move rfl) ?_
      refine ws_r rfl rfl rfl rfl (rd_move rfl) ?_
      refine ws_r rfl rfl rfl rfl (rd_move rfl) ?_
      refine ws_r rfl rfl rfl rfl (rd_move rfl) ?_
      refine ws_r rfl rfl rfl rfl (rd_shr _ rfl rfl (by omega) (shr_32 _ 10 (by omega))) ?_
      refine ws_r rfl rfl rfl rfl (rd_move rfl) ?_
      refine ws_r rfl rfl rfl rfl (rd_arith (((t - 7 : Nat) : Nat) : Int) rfl rfl rfl (by rw [wrap_i64 _ (by omega) (by omega)]; omega)) ?_
      refine ws_r rfl rfl rfl rfl (rd_ixArr (t - 7) rfl rfl Tryz.underlying153 Tryz.sizeOf149 ⟨by omega, by omega⟩ (by rw [Int.toNat_natCast, Nat.mul_one, Nat.zero_add])) ?_
      refine ws_r rfl rfl rfl rfl (rd_load rfl) ?_
      refine ws_r rfl rfl rfl rfl (rd_move rfl) ?_
      refine ws_r rfl rfl rfl rfl (rd_move rfl) ?_
      refine ws_r rfl rfl rfl rfl (rd_move rfl) ?_
      refine ws_r rfl rfl rfl rfl (rd_shr _ rfl rfl (by omega) (shr_32 _ 3 (by omega))) ?_
      refine ws_r rfl rfl rfl rfl (rd_move rfl) ?_
      refine ws_r rfl rfl rfl rfl (rd_arith (((t - 16 : Nat) : Nat) : Int) rfl rfl rfl (by rw [wrap_i64 _ (by omega) (by omega)]; omega)) ?_
      refine ws_r rfl rfl rfl rfl (rd_ixArr (t - 16) rfl rfl Tryz.underlying153 Tryz.sizeOf149 ⟨by omega, by omega⟩ (by rw [Int.toNat_natCast, Nat.mul_one, Nat.zero_add])) ?_
      refine ws_r rfl rfl rfl rfl (rd_load rfl) ?_
      refine ws_callp rfl rfl rfl rfl rfl (En.go) (fun w hp hn ho => rotate_ret _ 17 (by omega) w) ?_
      refine ws_callp rfl rfl rfl rfl rfl (En.go) (fun w hp hn ho => rotate_ret _ 19 (by omega) w) ?_
      refine ws_r rfl rfl rfl rfl (rd_bits _ rfl rfl (xor32 _ _)) ?_
      refine ws_r rfl rfl rfl rfl (rd_bits _ rfl rfl (xor32 _ _)) ?_
      refine ws_r rfl rfl rfl rfl (rd_arith _ rfl rfl rfl (add32 _ _)) ?_
      refine ws_callp rfl rfl rfl rfl rfl (En.go) (fun w hp hn ho => rotate_ret _ 7 (by omega) w) ?_
      refine ws_callp rfl rfl rfl rfl rfl (En.go) (fun w hp hn ho => rotate_ret _ 18 (by omega) w) ?_
      refine ws_r rfl rfl rfl rfl (rd_bits _ rfl rfl (xor32 _ _)) ?_
      refine ws_r rfl rfl rfl rfl (rd_bits _ rfl rfl (xor32 _ _)) ?_
      refine ws_r rfl rfl rfl rfl (rd_arith _ rfl rfl rfl (add32 _ _)) ?_
      refine ws_r rfl rfl rfl rfl (rd_arith _ rfl rfl rfl (add32 _ _)) ?_
      refine ws_late rfl ?_
      refine ws_l rfl rfl rfl rfl (rd_ixArr (t) rfl rfl Tryz.underlying153 Tryz.sizeOf149 ⟨by omega, by omega⟩ (by rw [Int.toNat_natCast, Nat.mul_one, Nat.zero_add])) ?_
      refine ws_store rfl rfl rfl rfl (by first | exact .inl (by assumption) | exact .inr (by simp)) (fun _ h _ => by first | (cases h; done) | exact List.mem_cons_of_mem _ h | exact List.mem_cons_of_mem _ (List.mem_cons_of_mem _ h) | (simp at h ⊢; simp [h])) ?_
      rw [sched_hi bs t ht]
      refine ws_nil ?_
      refine qe_block ?_
      refine qe_then ?_
      refine wc_plain [(0, .x true), (1, .x true), (2, .x true)] (by kernel_rfl) ?_
      refine ws_l rfl rfl rfl rfl (rd_move rfl) ?_
      refine ws_l rfl rfl rfl rfl (rd_arith (((t + 1 : Nat) : Nat) : Int) rfl rfl rfl (by rw [wrap_i64 _ (by omega) (by omega)]; omega)) ?_
      refine ws_l rfl rfl rfl rfl (rd_assign rfl) ?_
      refine ws_nil ?_
      exact qe_loop fun ac2 w2 hs2 => ⟨_, by omega, t + 1, _, rfl, (by simp only [cmpP] at h8; omega), (rfl), st_sub hs2 _ rfl⟩
  · intro h8
    refine ws_nil ?_
    refine qe_then ?_
    refine wc_false rfl ?_
    refine wc_exit ?_
    refine qe_then_exit ?_
    refine qe_then_exit ?_
    refine qe_block_exit ?_
    refine qe_then ?_
    refine wc_seq ?_
    refine wc_plain [(0, .x true), (1, .x true)] (by kernel_rfl) ?_
    refine ws_l rfl rfl rfl rfl (rd_load rfl) ?_
    refine ws_store rfl rfl rfl rfl (by first | exact .inl (by assumption) | exact .inr (by simp)) (fun _ h _ => by first | (cases h; done) | exact List.mem_cons_of_mem _ h | exact List.mem_cons_of_mem _ (List.mem_cons_of_mem _ h) | (simp at h ⊢; simp [h])) ?_
    refine ws_nil ?_
    refine qe_then ?_
    refine wc_keep [(2, _)] rfl ?_
    refine wc_ret ?_
    refine qe_body _ (.inl rfl) (res1 rfl (RV.cell rfl)) ?_
    have h64 : t = 64 := by simp only [cmpP] at h8; omega
    subst h64
    exact ret_end fun w hp hn ho => rfl

end Go.Proofs.YtheioljidangkaaGreat
