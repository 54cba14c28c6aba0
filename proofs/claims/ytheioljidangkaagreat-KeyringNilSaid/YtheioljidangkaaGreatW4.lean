/- Walks: load, process. No conditions. -/
import Derived.Test.YtheioljidangkaaGreatW3
namespace Go.Proofs.YtheioljidangkaaGreat
open Go Go.RowKit Go.Sx
set_option linter.unusedSimpArgs false
set_option linter.unusedVariables false

set_option maxRecDepth 100000 in
set_option maxHeartbeats 4000000 in
theorem load_ret (b o c n0 : Nat) (cs : Array Value) (E : TypeId) (fr : Nat × Nat) (bs : List UInt8) (hB : BytesAt cs o n0 bs) (w : World) (hη : HpOK [(b, .cells cs E fr)] w) (hn : 64 ≤ n0) (n0max : n0 < 1048576) : Ret Tryz.prog 116 [.slice (some ⟨b, o, none⟩) n0 c] w [] (fun r _ => r = wK (loadF bs 16)) := by
  refine enter (n := 45) (args := [.slice (some ⟨b, o, none⟩) n0 c]) [] [(b, .cells cs E fr)] Tryz.func116 rfl rfl rfl hη (by simp) ?_
  refine wc_seq ?_
  refine wc_plain [(0, .x true)] (by kernel_rfl) ?_
  refine ws_alloc rfl rfl rfl ?_
  intro b2 hb2
  refine ws_nil ?_
  refine qe_then ?_
  refine wc_seq ?_
  refine wc_plain [(0, .x true)] (by kernel_rfl) ?_
  refine ws_alloc rfl rfl rfl ?_
  intro b3 hb3
  refine ws_nil ?_
  refine qe_then ?_
  refine wc_seq ?_
  refine wc_seq ?_
  refine wc_plain [(0, .x true)] (by kernel_rfl) ?_
  refine ws_l rfl rfl rfl rfl (rd_move rfl) ?_
  refine ws_nil ?_
  refine qe_then ?_
  refine wc_block ?_
  refine wc_loop (fun mz ac w1 => ∃ (t : Nat) (W0 : WV 16), mz = 16 - t ∧ (t ≤ 16) ∧ (W0 = loadF bs t) ∧ St 45 w [] [(0, .slice (some ⟨b, o, none⟩) n0 c), (2, ptr b2), (3, ptr b3), (5, I t)] [(b3, .cells (wC W0) 192 (0, 0)), (b2, .cells (wC (w0 16)) 192 (0, 0)), (b, .cells cs E fr)] ac w1) _ (fun ac w1 hs => ⟨0, w0 16, rfl, (by omega), (rfl), st_sub hs _ rfl⟩) ?_
  rintro _ ac1 wl1 ⟨t, W0, rfl, htl, hW0, hs1⟩
  refine wc_at hs1 ?_
  subst hW0
  refine wc_seq ?_
  refine wc_plain [(0, .x true)] (by kernel_rfl) ?_
  refine ws_lcmp rfl rfl rfl (rfl) (rfl) (rfl) ?_ ?_
  · intro h6
    refine ws_nil ?_
    refine qe_then ?_
    refine wc_seq ?_
    refine wc_true rfl ?_
    refine wc_skip ?_
    refine qe_then ?_
    refine wc_seq ?_
    refine wc_block ?_
    refine wc_seq ?_
    refine wc_plain [(0, .x true), (1, .x true)] (by kernel_rfl) ?_
    refine ws_l rfl rfl rfl rfl (rd_move rfl) ?_
    refine ws_l rfl rfl rfl rfl (rd_assign rfl) ?_
    refine ws_nil ?_
    refine qe_then ?_
    refine wc_drawn mixedT _ (fun _ h => h) [(0, .r), (1, .r), (2, .r), (3, .r), (4, .r), (5, .r), (6, .r), (7, .r), (8, .r), (9, .r), (10, .r), (11, .r), (12, .r), (13, .r), (14, .r), (15, .r), (16, .r), (17, .r), (18, .r), (19, .r), (20, .r), (21, .r), (22, .r), (23, .r), (24, .r), (25, .r), (26, .r), (27, .r), (28, .r), (29, .r), (30, .r), (31, .r), (32, .r), (33, .r), (34, .x true), (35, .x true)] (by kernel_rfl) ?_
    have ht : t < 16 := by simp only [cmpP] at h6; omega
    have at0 : GetAt cs (o + (4 * t)) (u8v (bg bs (4 * t))) := b_get hB (by omega)
    have at1 : GetAt cs (o + (4 * t + 1)) (u8v (bg bs (4 * t + 1))) := b_get hB (by omega)
    have at2 : GetAt cs (o + (4 * t + 2)) (u8v (bg bs (4 * t + 2))) := b_get hB (by omega)
    have at3 : GetAt cs (o + (4 * t + 3)) (u8v (bg bs (4 * t + 3))) := b_get hB (by omega)
    have hset := fun x => w_setg (loadF bs t) (j := t) (by omega) x
    refine ws_r rfl rfl rfl rfl (rd_move rfl) ?_
    refine ws_r rfl rfl rfl rfl (rd_move rfl) ?_
    refine ws_r rfl rfl rfl rfl (rd_move rfl) ?_
    refine ws_r rfl rfl rfl rfl (rd_arith (((4 * t : Nat) : Nat) : Int) rfl rfl rfl (by rw [wrap_i64 _ (by omega) (by omega)]; omega)) ?_
    refine ws_r rfl rfl rfl rfl (rd_index (o + (4 * t)) rfl rfl Tryz.underlying87 Tryz.sizeOf5 ⟨by omega, by omega⟩ (by rw [Int.toNat_natCast, Nat.mul_one])) ?_
    refine ws_r rfl rfl rfl rfl (rd_load rfl) ?_
    refine ws_r rfl rfl rfl rfl (rd_conv rfl (run_conv_int _ Tryz.underlying5 Tryz.underlying149 (u8_32 _))) ?_
    refine ws_r rfl rfl rfl rfl (rd_shl _ rfl rfl (by omega) (shl_32 _ 24 (by omega))) ?_
    refine ws_r rfl rfl rfl rfl (rd_move rfl) ?_
    refine ws_r rfl rfl rfl rfl (rd_move rfl) ?_
    refine ws_r rfl rfl rfl rfl (rd_arith (((4 * t : Nat) : Nat) : Int) rfl rfl rfl (by rw [wrap_i64 _ (by omega) (by omega)]; omega)) ?_
    refine ws_r rfl rfl rfl rfl (rd_arith (((4 * t + 1 : Nat) : Nat) : Int) rfl rfl rfl (by rw [wrap_i64 _ (by omega) (by omega)]; omega)) ?_
    refine ws_r rfl rfl rfl rfl (rd_index (o + (4 * t + 1)) rfl rfl Tryz.underlying87 Tryz.sizeOf5 ⟨by omega, by omega⟩ (by rw [Int.toNat_natCast, Nat.mul_one])) ?_
    refine ws_r rfl rfl rfl rfl (rd_load rfl) ?_
    refine ws_r rfl rfl rfl rfl (rd_conv rfl (run_conv_int _ Tryz.underlying5 Tryz.underlying149 (u8_32 _))) ?_
    refine ws_r rfl rfl rfl rfl (rd_shl _ rfl rfl (by omega) (shl_32 _ 16 (by omega))) ?_
    refine ws_r rfl rfl rfl rfl (rd_bits _ rfl rfl (or32 _ _)) ?_
    refine ws_r rfl rfl rfl rfl (rd_move rfl) ?_
    refine ws_r rfl rfl rfl rfl (rd_move rfl) ?_
    refine ws_r rfl rfl rfl rfl (rd_arith (((4 * t : Nat) : Nat) : Int) rfl rfl rfl (by rw [wrap_i64 _ (by omega) (by omega)]; omega)) ?_
    refine ws_r rfl rfl rfl rfl (rd_arith (((4 * t + 2 : Nat) : Nat) : Int) rfl rfl rfl (by rw [wrap_i64 _ (by omega) (by omega)]; omega)) ?_
    refine ws_r rfl rfl rfl rfl (rd_index (o + (4 * t + 2)) rfl rfl Tryz.underlying87 Tryz.sizeOf5 ⟨by omega, by omega⟩ (by rw [Int.toNat_natCast, Nat.mul_one])) ?_
    refine ws_r rfl rfl rfl rfl (rd_load rfl) ?_
    refine ws_r rfl rfl rfl rfl (rd_conv rfl (run_conv_int _ Tryz.underlying5 Tryz.underlying149 (u8_32 _))) ?_
    refine ws_r rfl rfl rfl rfl (rd_shl _ rfl rfl (by omega) (shl_32 _ 8 (by omega))) ?_
    refine ws_r rfl rfl rfl rfl (rd_bits _ rfl rfl (or32 _ _)) ?_
    refine ws_r rfl rfl rfl rfl (rd_move rfl) ?_
    refine ws_r rfl rfl rfl rfl (rd_move rfl) ?_
    refine ws_r rfl rfl rfl rfl (rd_arith (((4 * t : Nat) : Nat) : Int) rfl rfl rfl (by rw [wrap_i64 _ (by omega) (by omega)]; omega)) ?_
    refine ws_r rfl rfl rfl rfl (rd_arith (((4 * t + 3 : Nat) : Nat) : Int) rfl rfl rfl (by rw [wrap_i64 _ (by omega) (by omega)]; omega)) ?_
    refine ws_r rfl rfl rfl rfl (rd_index (o + (4 * t + 3)) rfl rfl Tryz.underlying87 Tryz.sizeOf5 ⟨by omega, by omega⟩ (by rw [Int.toNat_natCast, Nat.mul_one])) ?_
    refine ws_r rfl rfl rfl rfl (rd_load rfl) ?_
    refine ws_r rfl rfl rfl rfl (rd_conv rfl (run_conv_int _ Tryz.underlying5 Tryz.underlying149 (u8_32 _))) ?_
    refine ws_r rfl rfl rfl rfl (rd_bits _ rfl rfl (or32 _ _)) ?_
    refine ws_late rfl ?_
    refine ws_l rfl rfl rfl rfl (rd_ixArr (t) rfl rfl Tryz.underlying192 Tryz.sizeOf149 ⟨by omega, by omega⟩ (by rw [Int.toNat_natCast, Nat.mul_one, Nat.zero_add])) ?_
    refine ws_store rfl rfl rfl rfl (by first | exact .inl (by assumption) | exact .inr (by simp)) (fun _ h _ => by first | (cases h; done) | exact List.mem_cons_of_mem _ h | exact List.mem_cons_of_mem _ (List.mem_cons_of_mem _ h) | (simp at h ⊢; simp [h])) ?_
    rw [load_step bs t]
    refine ws_nil ?_
    refine qe_block ?_
    refine qe_then ?_
    refine wc_plain [(0, .x true), (1, .x true)] (by kernel_rfl) ?_
    refine ws_l rfl rfl rfl rfl (rd_arith (((t + 1 : Nat) : Nat) : Int) rfl rfl rfl (by rw [wrap_i64 _ (by omega) (by omega)]; omega)) ?_
    refine ws_l rfl rfl rfl rfl (rd_move rfl) ?_
    refine ws_nil ?_
    exact qe_loop fun ac2 w2 hs2 => ⟨_, by omega, t + 1, _, rfl, (by simp only [cmpP] at h6; omega), (rfl), st_sub hs2 _ rfl⟩
  · intro h6
    refine ws_nil ?_
    refine qe_then ?_
    refine wc_seq ?_
    refine wc_false rfl ?_
    refine wc_exit ?_
    refine qe_then_exit ?_
    refine qe_then_exit ?_
    refine qe_block_exit ?_
    refine qe_then ?_
    refine wc_seq ?_
    refine wc_plain [(0, .x true), (1, .x true)] (by kernel_rfl) ?_
    refine ws_l rfl rfl rfl rfl (rd_load rfl) ?_
    refine ws_store rfl rfl rfl rfl (by first | exact .inl (by assumption) | exact .inr (by simp)) (fun _ h _ => by first | (cases h; done) | exact List.mem_cons_of_mem _ h | exact List.mem_cons_of_mem _ (List.mem_cons_of_mem _ h) | (simp at h ⊢; simp [h])) ?_
    refine ws_nil ?_
    refine qe_then ?_
    refine wc_keep [(2, _)] rfl ?_
    refine wc_ret ?_
    refine qe_body _ (.inl rfl) (res1 rfl (RV.cell rfl)) ?_
    have h16 : t = 16 := by simp only [cmpP] at h6; omega
    subst h16
    exact ret_end fun w hp hn ho => rfl
set_option maxRecDepth 100000 in
set_option maxHeartbeats 4000000 in
theorem process_ret (s : WV 8) (blk : WV 16) (w : World) : Ret Tryz.prog 115 [wK s, wK blk] w [] (fun r _ => r = wK (plusF (procF s blk 64).2 s)) := by
  refine enter (n := 69) (args := [wK s, wK blk]) [] [] Tryz.func115 rfl rfl rfl (HpOK.nil w) (by simp) ?_
  refine wc_seq ?_
  refine wc_plain [(0, .x true), (1, .x true), (2, .x true)] (by kernel_rfl) ?_
  refine ws_box rfl rfl rfl rfl ?_
  intro b2 hb2
  refine ws_box rfl rfl rfl rfl ?_
  intro b3 hb3
  refine ws_alloc rfl rfl rfl ?_
  intro b4 hb4
  refine ws_nil ?_
  refine qe_then ?_
  refine wc_seq ?_
  refine wc_plain [(0, .x true), (1, .x true), (2, .x true)] (by kernel_rfl) ?_
  refine ws_l rfl rfl rfl rfl (rd_load rfl) ?_
  refine ws_alloc rfl rfl rfl ?_
  intro b5 hb5
  refine ws_store rfl rfl rfl rfl (by first | exact .inl (by assumption) | exact .inr (by simp)) (fun _ h _ => by first | (cases h; done) | exact List.mem_cons_of_mem _ h | exact List.mem_cons_of_mem _ (List.mem_cons_of_mem _ h) | (simp at h ⊢; simp [h])) ?_
  refine ws_nil ?_
  refine qe_then ?_
  refine wc_seq ?_
  refine wc_seq ?_
  refine wc_plain [(0, .x true), (1, .x true)] (by kernel_rfl) ?_
  refine ws_callp rfl rfl rfl rfl rfl (En.go) (fun w hp hn ho => const_ret w) ?_
  refine ws_l rfl rfl rfl rfl (rd_move rfl) ?_
  refine ws_nil ?_
  refine qe_then ?_
  refine wc_block ?_
  refine wc_loop (fun mz ac w1 => ∃ (t : Nat) (B : WV 16) (O : WV 8), mz = 64 - t ∧ (t ≤ 64) ∧ (procF s blk t = (B, O)) ∧ St 69 w [] [(2, ptr b2), (3, ptr b3), (4, ptr b4), (5, ptr b5), (12, wK kK), (13, I t)] [(b5, .cells (wC O) 184 (0, 0)), (b4, .cells (wC (w0 8)) 184 (0, 0)), (b3, .cells (wC B) 192 (0, 0)), (b2, .cells (wC s) 184 (0, 0))] ac w1) _ (fun ac w1 hs => ⟨0, blk, s, rfl, (by omega), (rfl), st_sub hs _ rfl⟩) ?_
  rintro _ ac1 wl1 ⟨t, B, O, rfl, htl, hBO, hs1⟩
  refine wc_at hs1 ?_
  refine wc_seq ?_
  refine wc_plain [(0, .x true)] (by kernel_rfl) ?_
  refine ws_lcmp rfl rfl rfl (rfl) (rfl) (rfl) ?_ ?_
  · intro h14
    refine ws_nil ?_
    refine qe_then ?_
    refine wc_seq ?_
    refine wc_true rfl ?_
    refine wc_skip ?_
    refine qe_then ?_
    refine wc_seq ?_
    refine wc_block ?_
    refine wc_seq ?_
    refine wc_plain [(0, .x true), (1, .x true), (2, .x true), (3, .x true)] (by kernel_rfl) ?_
    refine ws_l rfl rfl rfl rfl (rd_move rfl) ?_
    refine ws_l rfl rfl rfl rfl (rd_indexArr (v := w32 (wg kK t)) rfl rfl Tryz.underlying153 Tryz.sizeOf149 Tryz.isAgg149 ⟨by omega, by simp only [cmpP] at h14; omega⟩ (by rw [Int.toNat_natCast]; exact (w_getg kK (by simp only [cmpP] at h14; omega)).go)) ?_
    refine ws_l rfl rfl rfl rfl (rd_assign rfl) ?_
    refine ws_l rfl rfl rfl rfl (rd_assign rfl) ?_
    refine ws_nil ?_
    refine qe_then ?_
    refine wc_seq ?_
    refine wc_plain [(0, .x true), (1, .x true), (2, .x true)] (by kernel_rfl) ?_
    refine ws_l rfl rfl rfl rfl (rd_move rfl) ?_
    refine ws_l rfl rfl rfl rfl (rd_rem ((t % 16 : Nat) : Int) rfl rfl (by omega) (by rw [Int.tmod_eq_emod_of_nonneg (by omega)]; rfl)) ?_
    refine ws_l rfl rfl rfl rfl (rd_assign rfl) ?_
    refine ws_nil ?_
    refine qe_then ?_
    refine wc_seq ?_
    refine wc_seq ?_
    refine wc_plain [(0, .x true), (1, .x true)] (by kernel_rfl) ?_
    refine ws_l rfl rfl rfl rfl (rd_move rfl) ?_
    refine ws_lcmp rfl rfl rfl (rfl) (rfl) (rfl) ?_ ?_
    · intro h20
      have ht64 : t < 64 := by simp only [cmpP] at h14; omega
      have hm16 : t % 16 < 16 := Nat.mod_lt _ (by omega)
      have ht : ¬ t < 16 := by simp only [cmpP] at h20; omega
      have hget : ∀ z, GetAt (wC B) (z % 16) (w32 (wg B (z % 16))) := fun z => w_getg B (Nat.mod_lt _ (by omega))
      have hset := fun x => w_setg B (j := t % 16) hm16 x
      have hget2 : ∀ x, GetAt (wC (wset B (t % 16) x)) (t % 16) (w32 (wg (wset B (t % 16) x) (t % 16))) := fun x => w_getg _ hm16
      refine ws_nil ?_
      refine qe_then ?_
      refine wc_true rfl ?_
      refine wc_seq ?_
      refine wc_drawn mixedT _ (fun _ h => h) [(0, .r), (1, .r), (2, .r), (3, .r), (4, .r), (5, .r), (6, .r), (7, .r), (8, .r), (9, .r), (10, .r), (11, .x true)] (by kernel_rfl) ?_
      refine ws_r rfl rfl rfl rfl (rd_move rfl) ?_
      refine ws_r rfl rfl rfl rfl (rd_arith (((t - 15 : Nat) : Nat) : Int) rfl rfl rfl (by rw [wrap_i64 _ (by omega) (by omega)]; omega)) ?_
      refine ws_r rfl rfl rfl rfl (rd_rem (((t - 15) % 16 : Nat) : Int) rfl rfl (by omega) (by rw [Int.tmod_eq_emod_of_nonneg (by omega)]; rfl)) ?_
      refine ws_r rfl rfl rfl rfl (rd_ixArr ((t - 15) % 16) rfl rfl Tryz.underlying192 Tryz.sizeOf149 ⟨by omega, by omega⟩ (by rw [Int.toNat_natCast, Nat.mul_one, Nat.zero_add])) ?_
      refine ws_r rfl rfl rfl rfl (rd_load rfl) ?_
      refine ws_r rfl rfl rfl rfl (rd_move rfl) ?_
      refine ws_r rfl rfl rfl rfl (rd_arith (((t - 2 : Nat) : Nat) : Int) rfl rfl rfl (by rw [wrap_i64 _ (by omega) (by omega)]; omega)) ?_
      refine ws_r rfl rfl rfl rfl (rd_rem (((t - 2) % 16 : Nat) : Int) rfl rfl (by omega) (by rw [Int.tmod_eq_emod_of_nonneg (by omega)]; rfl)) ?_
      refine ws_r rfl rfl rfl rfl (rd_ixArr ((t - 2) % 16) rfl rfl Tryz.underlying192 Tryz.sizeOf149 ⟨by omega, by omega⟩ (by rw [Int.toNat_natCast, Nat.mul_one, Nat.zero_add])) ?_
      refine ws_r rfl rfl rfl rfl (rd_load rfl) ?_
      refine ws_r rfl rfl rfl rfl (rd_assign rfl) ?_
      refine ws_late rfl ?_
      refine ws_l rfl rfl rfl rfl (rd_assign rfl) ?_
      refine ws_nil ?_
      refine qe_then ?_
      refine wc_drawn mixedT _ (fun _ h => h) [(0, .r), (1, .r), (2, .r), (3, .r), (5, .r), (8, .r), (9, .r), (11, .r), (12, .r), (13, .r), (14, .r), (15, .r), (17, .r), (19, .r), (22, .r), (23, .r), (4, .x false), (6, .x false), (7, .r), (10, .r), (16, .r), (18, .x false), (20, .x false), (21, .r), (24, .r), (25, .r), (26, .x true), (27, .x true), (28, .x true)] (by kernel_rfl) ?_
      refine ws_r rfl rfl rfl rfl (rd_move rfl) ?_
      refine ws_r rfl rfl rfl rfl (rd_ixArr (t % 16) rfl rfl Tryz.underlying192 Tryz.sizeOf149 ⟨by omega, by omega⟩ (by rw [Int.toNat_natCast, Nat.mul_one, Nat.zero_add])) ?_
      refine ws_r rfl rfl rfl rfl (rd_load rfl) ?_
      refine ws_r rfl rfl rfl rfl (rd_move rfl) ?_
      refine ws_r rfl rfl rfl rfl (rd_move rfl) ?_
      refine ws_r rfl rfl rfl rfl (rd_move rfl) ?_
      refine ws_r rfl rfl rfl rfl (rd_shr _ rfl rfl (by omega) (shr_32 _ 10 (by omega))) ?_
      refine ws_r rfl rfl rfl rfl (rd_move rfl) ?_
      refine ws_r rfl rfl rfl rfl (rd_arith (((t - 7 : Nat) : Nat) : Int) rfl rfl rfl (by rw [wrap_i64 _ (by omega) (by omega)]; omega)) ?_
      refine ws_r rfl rfl rfl rfl (rd_rem (((t - 7) % 16 : Nat) : Int) rfl rfl (by omega) (by rw [Int.tmod_eq_emod_of_nonneg (by omega)]; rfl)) ?_
      refine ws_r rfl rfl rfl rfl (rd_ixArr ((t - 7) % 16) rfl rfl Tryz.underlying192 Tryz.sizeOf149 ⟨by omega, by omega⟩ (by rw [Int.toNat_natCast, Nat.mul_one, Nat.zero_add])) ?_
      refine ws_r rfl rfl rfl rfl (rd_load rfl) ?_
      refine ws_r rfl rfl rfl rfl (rd_move rfl) ?_
      refine ws_r rfl rfl rfl rfl (rd_move rfl) ?_
      refine ws_r rfl rfl rfl rfl (rd_move rfl) ?_
      refine ws_r rfl rfl rfl rfl (rd_shr _ rfl rfl (by omega) (shr_32 _ 3 (by omega))) ?_
      refine ws_callp rfl rfl rfl rfl rfl (En.go) (fun w hp hn ho => right_ret _ 17 (by omega) w) ?_
      refine ws_callp rfl rfl rfl rfl rfl (En.go) (fun w hp hn ho => right_ret _ 19 (by omega) w) ?_
      refine ws_r rfl rfl rfl rfl (rd_bits _ rfl rfl (xor32 _ _)) ?_
      refine ws_r rfl rfl rfl rfl (rd_bits _ rfl rfl (xor32 _ _)) ?_
      refine ws_r rfl rfl rfl rfl (rd_arith _ rfl rfl rfl (add32 _ _)) ?_
      refine ws_callp rfl rfl rfl rfl rfl (En.go) (fun w hp hn ho => right_ret _ 7 (by omega) w) ?_
      refine ws_callp rfl rfl rfl rfl rfl (En.go) (fun w hp hn ho => right_ret _ 18 (by omega) w) ?_
      refine ws_r rfl rfl rfl rfl (rd_bits _ rfl rfl (xor32 _ _)) ?_
      refine ws_r rfl rfl rfl rfl (rd_bits _ rfl rfl (xor32 _ _)) ?_
      refine ws_r rfl rfl rfl rfl (rd_arith _ rfl rfl rfl (add32 _ _)) ?_
      refine ws_late rfl ?_
      refine ws_l rfl rfl rfl rfl (rd_arith _ rfl rfl rfl (add32 _ _)) ?_
      refine ws_l rfl rfl rfl rfl (rd_ixArr (t % 16) rfl rfl Tryz.underlying192 Tryz.sizeOf149 ⟨by omega, by omega⟩ (by rw [Int.toNat_natCast, Nat.mul_one, Nat.zero_add])) ?_
      refine ws_store rfl rfl rfl rfl (by first | exact .inl (by assumption) | exact .inr (by simp)) (fun _ h _ => by first | (cases h; done) | exact List.mem_cons_of_mem _ h | exact List.mem_cons_of_mem _ (List.mem_cons_of_mem _ h) | (simp at h ⊢; simp [h])) ?_
      refine ws_nil ?_
      refine qe_then ?_
      refine wc_drawn mixedT _ (fun _ h => h) [(0, .r), (1, .r), (2, .r), (3, .r), (4, .r), (5, .x true), (6, .x true)] (by kernel_rfl) ?_
      refine ws_r rfl rfl rfl rfl (rd_load rfl) ?_
      refine ws_r rfl rfl rfl rfl (rd_move rfl) ?_
      refine ws_r rfl rfl rfl rfl (rd_move rfl) ?_
      refine ws_r rfl rfl rfl rfl (rd_ixArr (t % 16) rfl rfl Tryz.underlying192 Tryz.sizeOf149 ⟨by omega, by omega⟩ (by rw [Int.toNat_natCast, Nat.mul_one, Nat.zero_add])) ?_
      refine ws_r rfl rfl rfl rfl (rd_load rfl) ?_
      refine ws_late rfl ?_
      refine ws_callp rfl rfl rfl rfl rfl (En.go) (fun w hp hn ho => round_ret _ _ _ w) ?_
      refine ws_store rfl rfl rfl rfl (by first | exact .inl (by assumption) | exact .inr (by simp)) (fun _ h _ => by first | (cases h; done) | exact List.mem_cons_of_mem _ h | exact List.mem_cons_of_mem _ (List.mem_cons_of_mem _ h) | (simp at h ⊢; simp [h])) ?_
      refine ws_nil ?_
      refine qe_block ?_
      refine qe_then ?_
      refine wc_plain [(0, .x true), (1, .x true)] (by kernel_rfl) ?_
      refine ws_l rfl rfl rfl rfl (rd_arith (((t + 1 : Nat) : Nat) : Int) rfl rfl rfl (by rw [wrap_i64 _ (by omega) (by omega)]; omega)) ?_
      refine ws_l rfl rfl rfl rfl (rd_move rfl) ?_
      refine ws_nil ?_
      exact qe_loop fun ac2 w2 hs2 => ⟨_, by omega, t + 1, _, _, rfl, (by simp only [cmpP] at h14; omega), (proc_hi hBO ht), st_sub hs2 _ rfl⟩
    · intro h20
      have ht64 : t < 64 := by simp only [cmpP] at h14; omega
      have hm16 : t % 16 < 16 := Nat.mod_lt _ (by omega)
      have ht : t < 16 := by simp only [cmpP] at h20; omega
      have hget : GetAt (wC B) (t % 16) (w32 (wg B (t % 16))) := w_getg B hm16
      refine ws_nil ?_
      refine qe_then ?_
      refine wc_false rfl ?_
      refine wc_skip ?_
      refine qe_then ?_
      refine wc_drawn mixedT _ (fun _ h => h) [(0, .r), (1, .r), (2, .r), (3, .r), (4, .r), (5, .x true), (6, .x true)] (by kernel_rfl) ?_
      refine ws_r rfl rfl rfl rfl (rd_load rfl) ?_
      refine ws_r rfl rfl rfl rfl (rd_move rfl) ?_
      refine ws_r rfl rfl rfl rfl (rd_move rfl) ?_
      refine ws_r rfl rfl rfl rfl (rd_ixArr (t % 16) rfl rfl Tryz.underlying192 Tryz.sizeOf149 ⟨by omega, by omega⟩ (by rw [Int.toNat_natCast, Nat.mul_one, Nat.zero_add])) ?_
      refine ws_r rfl rfl rfl rfl (rd_load rfl) ?_
      refine ws_late rfl ?_
      refine ws_callp rfl rfl rfl rfl rfl (En.go) (fun w hp hn ho => round_ret _ _ _ w) ?_
      refine ws_store rfl rfl rfl rfl (by first | exact .inl (by assumption) | exact .inr (by simp)) (fun _ h _ => by first | (cases h; done) | exact List.mem_cons_of_mem _ h | exact List.mem_cons_of_mem _ (List.mem_cons_of_mem _ h) | (simp at h ⊢; simp [h])) ?_
      refine ws_nil ?_
      refine qe_block ?_
      refine qe_then ?_
      refine wc_plain [(0, .x true), (1, .x true)] (by kernel_rfl) ?_
      refine ws_l rfl rfl rfl rfl (rd_arith (((t + 1 : Nat) : Nat) : Int) rfl rfl rfl (by rw [wrap_i64 _ (by omega) (by omega)]; omega)) ?_
      refine ws_l rfl rfl rfl rfl (rd_move rfl) ?_
      refine ws_nil ?_
      exact qe_loop fun ac2 w2 hs2 => ⟨_, by omega, t + 1, _, _, rfl, (by simp only [cmpP] at h14; omega), (proc_lo hBO ht), st_sub hs2 _ rfl⟩
  · intro h14
    refine ws_nil ?_
    refine qe_then ?_
    refine wc_seq ?_
    refine wc_false rfl ?_
    refine wc_exit ?_
    refine qe_then_exit ?_
    refine qe_then_exit ?_
    refine qe_block_exit ?_
    refine qe_then ?_
    refine wc_seq ?_
    refine wc_plain [(0, .x true), (1, .x true), (2, .x true), (3, .x true)] (by kernel_rfl) ?_
    refine ws_l rfl rfl rfl rfl (rd_load rfl) ?_
    refine ws_l rfl rfl rfl rfl (rd_load rfl) ?_
    refine ws_callp rfl rfl rfl rfl rfl (En.go) (fun w hp hn ho => plus_ret _ _ w) ?_
    refine ws_store rfl rfl rfl rfl (by first | exact .inl (by assumption) | exact .inr (by simp)) (fun _ h _ => by first | (cases h; done) | exact List.mem_cons_of_mem _ h | exact List.mem_cons_of_mem _ (List.mem_cons_of_mem _ h) | (simp at h ⊢; simp [h])) ?_
    refine ws_nil ?_
    refine qe_then ?_
    refine wc_keep [(4, _)] rfl ?_
    refine wc_ret ?_
    refine qe_body _ (.inl rfl) (res1 rfl (RV.cell rfl)) ?_
    have h64 : t = 64 := by simp only [cmpP] at h14; omega
    subst h64
    exact ret_end fun w hp hn ho => by rw [hBO]

end Go.Proofs.YtheioljidangkaaGreat
