/- Walks: the digest and the identities of the reference. No conditions. -/
import Derived.Test.YtheioljidangkaaGreatDig
namespace Go.Proofs.YtheioljidangkaaGreat
open Go Go.RowKit Go.Sx
set_option linter.unusedSimpArgs false
set_option linter.unusedVariables false

set_option maxRecDepth 100000 in
set_option maxHeartbeats 8000000 in
theorem sum_ref (v : Value) (φ : Heap) (bs : List UInt8) (hl : bs.length = 17) (hsrc : Src φ v 1 17 (byL bs)) (w : World) (hφ : HpOK φ w) (hnd : (φ.map Prod.fst).Nodup) : Ret Tryz.prog 62 [v] w [] (fun u _ => u = idK (digF bs)) := by
  refine enter (n := 150) (args := [v]) [] φ Tryz.func62 rfl rfl rfl hφ hnd ?_
  refine wc_seq ?_
  refine wc_plain [(0, .x true)] (by kernel_rfl) ?_
  refine ws_alloc rfl rfl rfl ?_
  intro b2 hb2
  refine ws_nil ?_
  refine qe_then ?_
  refine wc_seq ?_
  refine wc_plain [(0, .x true), (1, .x true), (2, .x true)] (by kernel_rfl) ?_
  refine ws_l rfl rfl rfl rfl (rd_build rfl) ?_
  refine ws_alloc rfl rfl rfl ?_
  intro b3 hb3
  refine ws_store rfl rfl rfl rfl (by first | exact .inl (by assumption) | exact .inr (by simp)) (fun _ h _ => by first | (cases h; done) | exact List.mem_cons_of_mem _ h | exact List.mem_cons_of_mem _ (List.mem_cons_of_mem _ h) | (simp at h ⊢; simp [h])) ?_
  refine ws_nil ?_
  refine qe_then ?_
  refine wc_seq ?_
  refine wc_plain [(0, .x true), (1, .x true), (2, .x true)] (by kernel_rfl) ?_
  refine ws_callp rfl rfl rfl rfl rfl (En.go) (fun w hp hn ho => const_ref w) ?_
  refine ws_alloc rfl rfl rfl ?_
  intro b4 hb4
  refine ws_store rfl rfl rfl rfl (by first | exact .inl (by assumption) | exact .inr (by simp)) (fun _ h _ => by first | (cases h; done) | exact List.mem_cons_of_mem _ h | exact List.mem_cons_of_mem _ (List.mem_cons_of_mem _ h) | (simp at h ⊢; simp [h])) ?_
  refine ws_nil ?_
  refine qe_then ?_
  refine wc_seq ?_
  refine wc_plain [(0, .x true), (1, .x true), (2, .x true)] (by kernel_rfl) ?_
  refine ws_l rfl rfl rfl rfl (rd_move rfl) ?_
  refine ws_call rfl rfl rfl rfl rfl (En.go) (fun w hp hn ho => padded_ref v φ bs hl hsrc w (hp.mono SubH.mem) hnd) (fun _ h => by cases h) (fun hh q h => by first | (cases h; done) | exact hh q h) ?_
  rintro v18 wa wb hpo hon hon2 hp1 ⟨ν5, hown5, hν5⟩
  refine ⟨ν5, hν5, hown5.nd, fun b hb => .inl (hown5.far b hb), ?_⟩
  replace hown5 := hown5.mono hon.size
  obtain ⟨g5, c5, cur5, rfl, rfl, hg5, hc5, hcur5⟩ := OwnR.opened hown5 (by omega)
  have hB5 : BytesAt cur5 0 64 (padB bs) := bytes_of (padB_len hl) hcur5
  refine ws_l rfl rfl rfl rfl (rd_assign rfl) ?_
  refine ws_nil ?_
  refine qe_then ?_
  refine wc_keep [(2, _), (3, _), (4, _), (5, _)] rfl ?_
  refine wc_seq ?_
  refine wc_seq ?_
  refine wc_plain [(0, .x true)] (by kernel_rfl) ?_
  rw [show kI = hst bs 0 from rfl]
  refine ws_l rfl rfl rfl rfl (rd_assign rfl) ?_
  refine ws_nil ?_
  refine qe_then ?_
  refine wc_block ?_
  refine wc_loop (fun mz ac w1 => ∃ (t : Nat), mz = 1 - t ∧ (t ≤ 1) ∧ St 150 w [] [(2, ptr b2), (3, ptr b3), (4, ptr b4), (5, .slice (some ⟨g5, 0, none⟩) 64 c5), (6, I ((64 * t : Nat) : Int))] [(g5, .cells cur5 5 (0, 0)), (b4, .cells (wC kK) 153 (0, 0)), (b3, .cells (wC (hst bs t)) 152 (0, 0)), (b2, .cells (idC (zv 32)) 36 (0, 0))] ac w1) _ (fun ac w1 hs => ⟨0, rfl, (by omega), st_sub hs _ rfl⟩) ?_
  rintro _ ac1 wl1 ⟨t, rfl, ht, hs1⟩
  refine wc_at hs1 ?_
  refine wc_seq ?_
  refine wc_seq ?_
  refine wc_plain [(0, .x true), (1, .x true), (2, .x true), (3, .x true)] (by kernel_rfl) ?_
  refine ws_l rfl rfl rfl rfl (rd_move rfl) ?_
  refine ws_l rfl rfl rfl rfl (rd_move rfl) ?_
  refine ws_l rfl rfl rfl rfl (rd_len rfl Tryz.underlying87) ?_
  refine ws_lcmp rfl rfl rfl (rfl) (rfl) (rfl) ?_ ?_
  · intro h22
    obtain rfl : t = 0 := by simp only [cmpP] at h22; omega
    refine ws_nil ?_
    refine qe_then ?_
    refine wc_true rfl ?_
    refine wc_skip ?_
    refine qe_then ?_
    refine wc_seq ?_
    refine wc_block ?_
    refine wc_seq ?_
    refine wc_plain [(0, .x true), (1, .x true), (2, .x true), (3, .x true), (4, .x true), (5, .x true), (6, .x true), (7, .x true)] (by kernel_rfl) ?_
    refine ws_l rfl rfl rfl rfl (rd_move rfl) ?_
    refine ws_l rfl rfl rfl rfl (rd_move rfl) ?_
    refine ws_l rfl rfl rfl rfl (rd_move rfl) ?_
    refine ws_l rfl rfl rfl rfl (rd_arith (((64 : Nat) : Nat) : Int) rfl rfl rfl (by rw [wrap_i64 _ (by omega) (by omega)]; omega)) ?_
    refine ws_l rfl rfl rfl rfl (rd_sliceLH (i := 64 * 0) (j := 64) 0 64 Tryz.underlying87 rfl rfl rfl Tryz.sizeOf5 (by omega) (by omega) (by split <;> simp) (by omega)) ?_
    refine ws_callp rfl rfl rfl rfl rfl (En.go) (fun w hp hn ho => sched_ref g5 0 _ cur5 5 (0, 0) (padB bs) hB5 w (hp.mono (by simp))) ?_
    refine ws_alloc rfl rfl rfl ?_
    intro b7 hb7
    refine ws_store rfl rfl rfl rfl (by first | exact .inl (by assumption) | exact .inr (by simp)) (fun _ h _ => by first | (cases h; done) | exact List.mem_cons_of_mem _ h | exact List.mem_cons_of_mem _ (List.mem_cons_of_mem _ h) | (simp at h ⊢; simp [h])) ?_
    refine ws_nil ?_
    refine qe_then ?_
    refine wc_seq ?_
    refine wc_plain [(0, .x true), (1, .x true), (2, .x true)] (by kernel_rfl) ?_
    refine ws_l rfl rfl rfl rfl (rd_load rfl) ?_
    refine ws_alloc rfl rfl rfl ?_
    intro b8 hb8
    refine ws_store rfl rfl rfl rfl (by first | exact .inl (by assumption) | exact .inr (by simp)) (fun _ h _ => by first | (cases h; done) | exact List.mem_cons_of_mem _ h | exact List.mem_cons_of_mem _ (List.mem_cons_of_mem _ h) | (simp at h ⊢; simp [h])) ?_
    refine ws_nil ?_
    refine qe_then ?_
    refine wc_seq ?_
    refine wc_seq ?_
    refine wc_plain [(0, .x true)] (by kernel_rfl) ?_
    refine ws_l rfl rfl rfl rfl (rd_assign rfl) ?_
    refine ws_nil ?_
    refine qe_then ?_
    refine wc_block ?_
    refine wc_loop (fun mz ac w1 => ∃ (r : Nat) (V : WV 8), mz = 64 - r ∧ (r ≤ 64) ∧ (V = refRounds (padB bs) r) ∧ St 150 w [] [(2, ptr b2), (3, ptr b3), (4, ptr b4), (5, .slice (some ⟨g5, 0, none⟩) 64 c5), (6, I ((64 * 0 : Nat) : Int)), (7, ptr b7), (8, ptr b8), (9, I r)] [(b8, .cells (wC V) 152 (0, 0)), (b7, .cells (wC (schedF (padB bs) 64)) 153 (0, 0)), (g5, .cells cur5 5 (0, 0)), (b4, .cells (wC kK) 153 (0, 0)), (b3, .cells (wC (hst bs 0)) 152 (0, 0)), (b2, .cells (idC (zv 32)) 36 (0, 0))] ac w1) _ (fun ac w1 hs => ⟨0, hst bs 0, rfl, (by omega), (rfl), st_sub hs _ rfl⟩) ?_
    rintro _ ac2 wl2 ⟨r, V, rfl, hr, hV, hs2⟩
    refine wc_at hs2 ?_
    subst hV
    refine wc_seq ?_
    refine wc_seq ?_
    refine wc_plain [(0, .x true), (1, .x true)] (by kernel_rfl) ?_
    refine ws_l rfl rfl rfl rfl (rd_move rfl) ?_
    refine ws_lcmp rfl rfl rfl (rfl) (rfl) (rfl) ?_ ?_
    · intro h33
      refine ws_nil ?_
      refine qe_then ?_
      refine wc_true rfl ?_
      refine wc_skip ?_
      refine qe_then ?_
      refine wc_seq ?_
      refine wc_block ?_
      refine wc_seq ?_
      refine wc_drawn mixedT _ (fun _ h => h) [(0, .r), (1, .r), (2, .r), (3, .r), (5, .r), (6, .r), (9, .r), (10, .r), (14, .r), (15, .r), (16, .r), (17, .r), (18, .r), (19, .r), (20, .r), (21, .r), (22, .r), (23, .r), (24, .r), (25, .r), (27, .r), (28, .r), (29, .r), (31, .r), (32, .r), (33, .r), (4, .x false), (7, .x false), (8, .r), (11, .x false), (12, .r), (13, .r), (26, .r), (30, .r), (34, .x true), (35, .x true)] (by kernel_rfl) ?_
      have hr64 : r < 64 := by simp only [cmpP] at h33; omega
      have agk : GetAt (wC kK) r (w32 (wg kK r)) := w_getg kK hr64
      have agw : GetAt (wC (schedF (padB bs) 64)) r (w32 (wg (schedF (padB bs) 64) r)) := w_getg _ hr64
      refine ws_r rfl rfl rfl rfl (rd_ixArr 7 rfl rfl Tryz.underlying152 Tryz.sizeOf149 ⟨by omega, by omega⟩ rfl) ?_
      refine ws_r rfl rfl rfl rfl (rd_load rfl) ?_
      refine ws_r rfl rfl rfl rfl (rd_ixArr 4 rfl rfl Tryz.underlying152 Tryz.sizeOf149 ⟨by omega, by omega⟩ rfl) ?_
      refine ws_r rfl rfl rfl rfl (rd_load rfl) ?_
      refine ws_r rfl rfl rfl rfl (rd_ixArr 4 rfl rfl Tryz.underlying152 Tryz.sizeOf149 ⟨by omega, by omega⟩ rfl) ?_
      refine ws_r rfl rfl rfl rfl (rd_load rfl) ?_
      refine ws_r rfl rfl rfl rfl (rd_ixArr 4 rfl rfl Tryz.underlying152 Tryz.sizeOf149 ⟨by omega, by omega⟩ rfl) ?_
      refine ws_r rfl rfl rfl rfl (rd_load rfl) ?_
      refine ws_r rfl rfl rfl rfl (rd_ixArr 4 rfl rfl Tryz.underlying152 Tryz.sizeOf149 ⟨by omega, by omega⟩ rfl) ?_
      refine ws_r rfl rfl rfl rfl (rd_load rfl) ?_
      refine ws_r rfl rfl rfl rfl (rd_ixArr 5 rfl rfl Tryz.underlying152 Tryz.sizeOf149 ⟨by omega, by omega⟩ rfl) ?_
      refine ws_r rfl rfl rfl rfl (rd_load rfl) ?_
      refine ws_r rfl rfl rfl rfl (rd_bits _ rfl rfl (and32 _ _)) ?_
      refine ws_r rfl rfl rfl rfl (rd_ixArr 4 rfl rfl Tryz.underlying152 Tryz.sizeOf149 ⟨by omega, by omega⟩ rfl) ?_
      refine ws_r rfl rfl rfl rfl (rd_load rfl) ?_
      refine ws_r rfl rfl rfl rfl (rd_not32 rfl) ?_
      refine ws_r rfl rfl rfl rfl (rd_ixArr 6 rfl rfl Tryz.underlying152 Tryz.sizeOf149 ⟨by omega, by omega⟩ rfl) ?_
      refine ws_r rfl rfl rfl rfl (rd_load rfl) ?_
      refine ws_r rfl rfl rfl rfl (rd_bits _ rfl rfl (and32 _ _)) ?_
      refine ws_r rfl rfl rfl rfl (rd_bits _ rfl rfl (xor32 _ _)) ?_
      refine ws_r rfl rfl rfl rfl (rd_move rfl) ?_
      refine ws_r rfl rfl rfl rfl (rd_ixArr (r) rfl rfl Tryz.underlying153 Tryz.sizeOf149 ⟨by omega, by omega⟩ (by rw [Int.toNat_natCast, Nat.mul_one, Nat.zero_add])) ?_
      refine ws_r rfl rfl rfl rfl (rd_load rfl) ?_
      refine ws_r rfl rfl rfl rfl (rd_move rfl) ?_
      refine ws_r rfl rfl rfl rfl (rd_ixArr (r) rfl rfl Tryz.underlying153 Tryz.sizeOf149 ⟨by omega, by omega⟩ (by rw [Int.toNat_natCast, Nat.mul_one, Nat.zero_add])) ?_
      refine ws_r rfl rfl rfl rfl (rd_load rfl) ?_
      refine ws_callp rfl rfl rfl rfl rfl (En.go) (fun w hp hn ho => rotate_ret _ 6 (by omega) w) ?_
      refine ws_callp rfl rfl rfl rfl rfl (En.go) (fun w hp hn ho => rotate_ret _ 11 (by omega) w) ?_
      refine ws_r rfl rfl rfl rfl (rd_bits _ rfl rfl (xor32 _ _)) ?_
      refine ws_callp rfl rfl rfl rfl rfl (En.go) (fun w hp hn ho => rotate_ret _ 25 (by omega) w) ?_
      refine ws_r rfl rfl rfl rfl (rd_bits _ rfl rfl (xor32 _ _)) ?_
      refine ws_r rfl rfl rfl rfl (rd_arith _ rfl rfl rfl (add32 _ _)) ?_
      refine ws_r rfl rfl rfl rfl (rd_arith _ rfl rfl rfl (add32 _ _)) ?_
      refine ws_r rfl rfl rfl rfl (rd_arith _ rfl rfl rfl (add32 _ _)) ?_
      refine ws_late rfl ?_
      refine ws_l rfl rfl rfl rfl (rd_arith _ rfl rfl rfl (add32 _ _)) ?_
      refine ws_l rfl rfl rfl rfl (rd_assign rfl) ?_
      refine ws_nil ?_
      refine qe_then ?_
      refine wc_seq ?_
      refine wc_drawn mixedT _ (fun _ h => h) [(0, .r), (1, .r), (3, .r), (4, .r), (7, .r), (8, .r), (11, .r), (12, .r), (13, .r), (14, .r), (15, .r), (16, .r), (17, .r), (18, .r), (19, .r), (20, .r), (21, .r), (22, .r), (23, .r), (24, .r), (25, .r), (26, .r), (27, .r), (2, .x false), (5, .x false), (6, .r), (9, .x false), (10, .r), (28, .x true), (29, .x true)] (by kernel_rfl) ?_
      refine ws_r rfl rfl rfl rfl (rd_ixArr 0 rfl rfl Tryz.underlying152 Tryz.sizeOf149 ⟨by omega, by omega⟩ rfl) ?_
      refine ws_r rfl rfl rfl rfl (rd_load rfl) ?_
      refine ws_r rfl rfl rfl rfl (rd_ixArr 0 rfl rfl Tryz.underlying152 Tryz.sizeOf149 ⟨by omega, by omega⟩ rfl) ?_
      refine ws_r rfl rfl rfl rfl (rd_load rfl) ?_
      refine ws_r rfl rfl rfl rfl (rd_ixArr 0 rfl rfl Tryz.underlying152 Tryz.sizeOf149 ⟨by omega, by omega⟩ rfl) ?_
      refine ws_r rfl rfl rfl rfl (rd_load rfl) ?_
      refine ws_r rfl rfl rfl rfl (rd_ixArr 0 rfl rfl Tryz.underlying152 Tryz.sizeOf149 ⟨by omega, by omega⟩ rfl) ?_
      refine ws_r rfl rfl rfl rfl (rd_load rfl) ?_
      refine ws_r rfl rfl rfl rfl (rd_ixArr 1 rfl rfl Tryz.underlying152 Tryz.sizeOf149 ⟨by omega, by omega⟩ rfl) ?_
      refine ws_r rfl rfl rfl rfl (rd_load rfl) ?_
      refine ws_r rfl rfl rfl rfl (rd_bits _ rfl rfl (and32 _ _)) ?_
      refine ws_r rfl rfl rfl rfl (rd_ixArr 0 rfl rfl Tryz.underlying152 Tryz.sizeOf149 ⟨by omega, by omega⟩ rfl) ?_
      refine ws_r rfl rfl rfl rfl (rd_load rfl) ?_
      refine ws_r rfl rfl rfl rfl (rd_ixArr 2 rfl rfl Tryz.underlying152 Tryz.sizeOf149 ⟨by omega, by omega⟩ rfl) ?_
      refine ws_r rfl rfl rfl rfl (rd_load rfl) ?_
      refine ws_r rfl rfl rfl rfl (rd_bits _ rfl rfl (and32 _ _)) ?_
      refine ws_r rfl rfl rfl rfl (rd_bits _ rfl rfl (xor32 _ _)) ?_
      refine ws_r rfl rfl rfl rfl (rd_ixArr 1 rfl rfl Tryz.underlying152 Tryz.sizeOf149 ⟨by omega, by omega⟩ rfl) ?_
      refine ws_r rfl rfl rfl rfl (rd_load rfl) ?_
      refine ws_r rfl rfl rfl rfl (rd_ixArr 2 rfl rfl Tryz.underlying152 Tryz.sizeOf149 ⟨by omega, by omega⟩ rfl) ?_
      refine ws_r rfl rfl rfl rfl (rd_load rfl) ?_
      refine ws_r rfl rfl rfl rfl (rd_bits _ rfl rfl (and32 _ _)) ?_
      refine ws_r rfl rfl rfl rfl (rd_bits _ rfl rfl (xor32 _ _)) ?_
      refine ws_callp rfl rfl rfl rfl rfl (En.go) (fun w hp hn ho => rotate_ret _ 2 (by omega) w) ?_
      refine ws_callp rfl rfl rfl rfl rfl (En.go) (fun w hp hn ho => rotate_ret _ 13 (by omega) w) ?_
      refine ws_r rfl rfl rfl rfl (rd_bits _ rfl rfl (xor32 _ _)) ?_
      refine ws_callp rfl rfl rfl rfl rfl (En.go) (fun w hp hn ho => rotate_ret _ 22 (by omega) w) ?_
      refine ws_r rfl rfl rfl rfl (rd_bits _ rfl rfl (xor32 _ _)) ?_
      refine ws_late rfl ?_
      refine ws_l rfl rfl rfl rfl (rd_arith _ rfl rfl rfl (add32 _ _)) ?_
      refine ws_l rfl rfl rfl rfl (rd_assign rfl) ?_
      refine ws_nil ?_
      refine qe_then ?_
      refine wc_plain [(0, .x true), (1, .x true), (2, .x true), (3, .x true), (4, .x true), (5, .x true), (6, .x true), (7, .x true), (8, .x true), (9, .x true), (10, .x true), (11, .x true), (12, .x true), (13, .x true), (14, .x true), (15, .x true), (16, .x true), (17, .x true), (18, .x true), (19, .x true), (20, .x true)] (by kernel_rfl) ?_
      refine ws_l rfl rfl rfl rfl (rd_move rfl) ?_
      refine ws_l rfl rfl rfl rfl (rd_move rfl) ?_
      refine ws_l rfl rfl rfl rfl (rd_arith _ rfl rfl rfl (add32 _ _)) ?_
      refine ws_l rfl rfl rfl rfl (rd_ixArr 0 rfl rfl Tryz.underlying152 Tryz.sizeOf149 ⟨by omega, by omega⟩ rfl) ?_
      refine ws_l rfl rfl rfl rfl (rd_load rfl) ?_
      refine ws_l rfl rfl rfl rfl (rd_ixArr 1 rfl rfl Tryz.underlying152 Tryz.sizeOf149 ⟨by omega, by omega⟩ rfl) ?_
      refine ws_l rfl rfl rfl rfl (rd_load rfl) ?_
      refine ws_l rfl rfl rfl rfl (rd_ixArr 2 rfl rfl Tryz.underlying152 Tryz.sizeOf149 ⟨by omega, by omega⟩ rfl) ?_
      refine ws_l rfl rfl rfl rfl (rd_load rfl) ?_
      refine ws_l rfl rfl rfl rfl (rd_ixArr 3 rfl rfl Tryz.underlying152 Tryz.sizeOf149 ⟨by omega, by omega⟩ rfl) ?_
      refine ws_l rfl rfl rfl rfl (rd_load rfl) ?_
      refine ws_l rfl rfl rfl rfl (rd_move rfl) ?_
      refine ws_l rfl rfl rfl rfl (rd_arith _ rfl rfl rfl (add32 _ _)) ?_
      refine ws_l rfl rfl rfl rfl (rd_ixArr 4 rfl rfl Tryz.underlying152 Tryz.sizeOf149 ⟨by omega, by omega⟩ rfl) ?_
      refine ws_l rfl rfl rfl rfl (rd_load rfl) ?_
      refine ws_l rfl rfl rfl rfl (rd_ixArr 5 rfl rfl Tryz.underlying152 Tryz.sizeOf149 ⟨by omega, by omega⟩ rfl) ?_
      refine ws_l rfl rfl rfl rfl (rd_load rfl) ?_
      refine ws_l rfl rfl rfl rfl (rd_ixArr 6 rfl rfl Tryz.underlying152 Tryz.sizeOf149 ⟨by omega, by omega⟩ rfl) ?_
      refine ws_l rfl rfl rfl rfl (rd_load rfl) ?_
      refine ws_l rfl rfl rfl rfl (rd_build rfl) ?_
      refine ws_store rfl rfl rfl rfl (by first | exact .inl (by assumption) | exact .inr (by simp)) (fun _ h _ => by first | (cases h; done) | exact List.mem_cons_of_mem _ h | exact List.mem_cons_of_mem _ (List.mem_cons_of_mem _ h) | (simp at h ⊢; simp [h])) ?_
      rw [round_cells, round_next]
      refine ws_nil ?_
      refine qe_block ?_
      refine qe_then ?_
      refine wc_plain [(0, .x true), (1, .x true), (2, .x true)] (by kernel_rfl) ?_
      refine ws_l rfl rfl rfl rfl (rd_move rfl) ?_
      refine ws_l rfl rfl rfl rfl (rd_arith (((r + 1 : Nat) : Nat) : Int) rfl rfl rfl (by rw [wrap_i64 _ (by omega) (by omega)]; omega)) ?_
      refine ws_l rfl rfl rfl rfl (rd_assign rfl) ?_
      refine ws_nil ?_
      exact qe_loop fun ac2 w2 hs2 => ⟨_, by (simp only [cmpP] at h33; omega), r + 1, _, rfl, (by simp only [cmpP] at h33; omega), (rfl), st_sub hs2 _ rfl⟩
    · intro h33
      refine ws_nil ?_
      refine qe_then ?_
      refine wc_false rfl ?_
      refine wc_exit ?_
      refine qe_then_exit ?_
      refine qe_then_exit ?_
      refine qe_block_exit ?_
      refine qe_then ?_
      refine wc_seq ?_
      refine wc_plain [(0, .x true)] (by kernel_rfl) ?_
      obtain rfl : r = 64 := by simp only [cmpP] at h33; omega
      refine ws_l rfl rfl rfl rfl (rd_assign rfl) ?_
      refine ws_nil ?_
      refine qe_then ?_
      refine wc_block ?_
      refine wc_loop (fun mz ac w1 => ∃ (i : Nat) (Hh : WV 8), mz = 8 - i ∧ (i ≤ 8) ∧ (Hh = plusP kI (refRounds (padB bs) 64) i) ∧ St 150 w [] [(2, ptr b2), (3, ptr b3), (4, ptr b4), (5, .slice (some ⟨g5, 0, none⟩) 64 c5), (6, I ((64 * 0 : Nat) : Int)), (8, ptr b8), (12, I i)] [(b8, .cells (wC (refRounds (padB bs) 64)) 152 (0, 0)), (g5, .cells cur5 5 (0, 0)), (b4, .cells (wC kK) 153 (0, 0)), (b3, .cells (wC Hh) 152 (0, 0)), (b2, .cells (idC (zv 32)) 36 (0, 0))] ac w1) _ (fun ac w1 hs => ⟨0, hst bs 0, rfl, (by omega), ((plusP_zero _ _).symm), st_sub hs _ rfl⟩) ?_
      rintro _ ac3 wl3 ⟨i, Hh, rfl, hi, hH, hs3⟩
      refine wc_at hs3 ?_
      subst hH
      refine wc_seq ?_
      refine wc_seq ?_
      refine wc_plain [(0, .x true), (1, .x true)] (by kernel_rfl) ?_
      refine ws_l rfl rfl rfl rfl (rd_move rfl) ?_
      refine ws_lcmp rfl rfl rfl (rfl) (rfl) (rfl) ?_ ?_
      · intro h121
        refine ws_nil ?_
        refine qe_then ?_
        refine wc_true rfl ?_
        refine wc_skip ?_
        refine qe_then ?_
        refine wc_seq ?_
        refine wc_block ?_
        refine wc_drawn mixedT _ (fun _ h => h) [(0, .r), (1, .r), (2, .r), (3, .r), (4, .r), (5, .r), (6, .r), (7, .r), (8, .x true), (9, .x true)] (by kernel_rfl) ?_
        have hi8 : i < 8 := by simp only [cmpP] at h121; omega
        have agh : GetAt (wC (plusP kI (refRounds (padB bs) 64) i)) i (w32 (wg (plusP kI (refRounds (padB bs) 64) i) i)) := w_getg _ hi8
        have agv : GetAt (wC (refRounds (padB bs) 64)) i (w32 (wg (refRounds (padB bs) 64) i)) := w_getg _ hi8
        have hset := fun x => w_setg (plusP kI (refRounds (padB bs) 64) i) (j := i) hi8 x
        refine ws_r rfl rfl rfl rfl (rd_move rfl) ?_
        refine ws_r rfl rfl rfl rfl (rd_move rfl) ?_
        refine ws_r rfl rfl rfl rfl (rd_ixArr (i) rfl rfl Tryz.underlying152 Tryz.sizeOf149 ⟨by omega, by omega⟩ (by rw [Int.toNat_natCast, Nat.mul_one, Nat.zero_add])) ?_
        refine ws_r rfl rfl rfl rfl (rd_load rfl) ?_
        refine ws_r rfl rfl rfl rfl (rd_move rfl) ?_
        refine ws_r rfl rfl rfl rfl (rd_ixArr (i) rfl rfl Tryz.underlying152 Tryz.sizeOf149 ⟨by omega, by omega⟩ (by rw [Int.toNat_natCast, Nat.mul_one, Nat.zero_add])) ?_
        refine ws_r rfl rfl rfl rfl (rd_load rfl) ?_
        refine ws_r rfl rfl rfl rfl (rd_arith _ rfl rfl rfl (add32 _ _)) ?_
        refine ws_late rfl ?_
        refine ws_l rfl rfl rfl rfl (rd_ixArr (i) rfl rfl Tryz.underlying152 Tryz.sizeOf149 ⟨by omega, by omega⟩ (by rw [Int.toNat_natCast, Nat.mul_one, Nat.zero_add])) ?_
        refine ws_store rfl rfl rfl rfl (by first | exact .inl (by assumption) | exact .inr (by simp)) (fun _ h _ => by first | (cases h; done) | exact List.mem_cons_of_mem _ h | exact List.mem_cons_of_mem _ (List.mem_cons_of_mem _ h) | (simp at h ⊢; simp [h])) ?_
        rw [plusP_set _ _ i hi8]
        refine ws_nil ?_
        refine qe_block ?_
        refine qe_then ?_
        refine wc_plain [(0, .x true), (1, .x true), (2, .x true)] (by kernel_rfl) ?_
        refine ws_l rfl rfl rfl rfl (rd_move rfl) ?_
        refine ws_l rfl rfl rfl rfl (rd_arith (((i + 1 : Nat) : Nat) : Int) rfl rfl rfl (by rw [wrap_i64 _ (by omega) (by omega)]; omega)) ?_
        refine ws_l rfl rfl rfl rfl (rd_assign rfl) ?_
        refine ws_nil ?_
        exact qe_loop fun ac2 w2 hs2 => ⟨_, by (simp only [cmpP] at h121; omega), i + 1, _, rfl, (by simp only [cmpP] at h121; omega), (rfl), st_sub hs2 _ rfl⟩
      · intro h121
        refine ws_nil ?_
        refine qe_then ?_
        refine wc_false rfl ?_
        refine wc_exit ?_
        refine qe_then_exit ?_
        refine qe_then_exit ?_
        refine qe_block_exit ?_
        refine qe_block ?_
        refine qe_then ?_
        refine wc_plain [(0, .x true), (1, .x true), (2, .x true)] (by kernel_rfl) ?_
        obtain rfl : i = 8 := by simp only [cmpP] at h121; omega
        rw [plusP_all, show plusF kI (refRounds (padB bs) 64) = hst bs 1 from rfl]
        refine ws_l rfl rfl rfl rfl (rd_move rfl) ?_
        refine ws_l rfl rfl rfl rfl (rd_arith (((64 * 1 : Nat) : Nat) : Int) rfl rfl rfl (by rw [wrap_i64 _ (by omega) (by omega)]; omega)) ?_
        refine ws_l rfl rfl rfl rfl (rd_assign rfl) ?_
        refine ws_nil ?_
        exact qe_loop fun ac2 w2 hs2 => ⟨_, by omega, 1, rfl, (by omega), st_sub hs2 _ rfl⟩
  · intro h22
    obtain rfl : t = 1 := by simp only [cmpP] at h22; omega
    rw [show hst bs 1 = digW bs from rfl]
    refine ws_nil ?_
    refine qe_then ?_
    refine wc_false rfl ?_
    refine wc_exit ?_
    refine qe_then_exit ?_
    refine qe_then_exit ?_
    refine qe_block_exit ?_
    refine qe_then ?_
    refine wc_keep [(2, _), (3, _)] rfl ?_
    refine wc_seq ?_
    refine wc_plain [(0, .x true)] (by kernel_rfl) ?_
    refine ws_alloc rfl rfl rfl ?_
    intro b13 hb13
    refine ws_nil ?_
    refine qe_then ?_
    refine wc_seq ?_
    refine wc_seq ?_
    refine wc_plain [(0, .x true)] (by kernel_rfl) ?_
    refine ws_l rfl rfl rfl rfl (rd_assign rfl) ?_
    refine ws_nil ?_
    refine qe_then ?_
    refine wc_block ?_
    refine wc_loop (fun mz ac w1 => ∃ (i : Nat) (D : Id), mz = 32 - i ∧ (i ≤ 32) ∧ (D = dig (digW bs) i) ∧ St 150 w [] [(2, ptr b2), (3, ptr b3), (13, ptr b13), (14, I i)] [(b13, .cells (idC D) 36 (0, 0)), (b3, .cells (wC (digW bs)) 152 (0, 0)), (b2, .cells (idC (zv 32)) 36 (0, 0))] ac w1) _ (fun ac w1 hs => ⟨0, zv 32, rfl, (by omega), ((dig_zero _).symm), st_sub hs _ rfl⟩) ?_
    rintro _ ac4 wl4 ⟨i, D, rfl, hi, hD, hs4⟩
    refine wc_at hs4 ?_
    subst hD
    refine wc_seq ?_
    refine wc_seq ?_
    refine wc_plain [(0, .x true), (1, .x true)] (by kernel_rfl) ?_
    refine ws_l rfl rfl rfl rfl (rd_move rfl) ?_
    refine ws_lcmp rfl rfl rfl (rfl) (rfl) (rfl) ?_ ?_
    · intro h134
      refine ws_nil ?_
      refine qe_then ?_
      refine wc_true rfl ?_
      refine wc_skip ?_
      refine qe_then ?_
      refine wc_seq ?_
      refine wc_block ?_
      refine wc_plain [(0, .x true), (1, .x true), (2, .x true), (3, .x true), (4, .x true), (5, .x true), (6, .x true), (7, .x true), (8, .x true), (9, .x true), (10, .x true), (11, .x true), (12, .x true)] (by kernel_rfl) ?_
      have hi32 : i < 32 := by simp only [cmpP] at h134; omega
      have agw : GetAt (wC (digW bs)) (i / 4) (w32 (wg (digW bs) (i / 4))) := w_getg _ (by omega)
      have hset : SetAt (idC (dig (digW bs) i)) i (.int .u8 (((shr32 (wg (digW bs) (i / 4)) (24 - 8 * (i % 4))).toUInt8.toNat : Nat) : Int)) _ := id_setAt (dig (digW bs) i) i hi32 (byteOf (digW bs) i)
      refine ws_l rfl rfl rfl rfl (rd_move rfl) ?_
      refine ws_l rfl rfl rfl rfl (rd_move rfl) ?_
      refine ws_l rfl rfl rfl rfl (rd_quo ((i / 4 : Nat) : Int) rfl rfl (by omega) (by rw [tdiv4, wrap_i64 _ (by omega) (by omega)])) ?_
      refine ws_l rfl rfl rfl rfl (rd_ixArr (i / 4) rfl rfl Tryz.underlying152 Tryz.sizeOf149 ⟨by omega, by omega⟩ (by rw [Int.toNat_natCast, Nat.mul_one, Nat.zero_add])) ?_
      refine ws_l rfl rfl rfl rfl (rd_load rfl) ?_
      refine ws_l rfl rfl rfl rfl (rd_move rfl) ?_
      refine ws_l rfl rfl rfl rfl (rd_rem ((i % 4 : Nat) : Int) rfl rfl (by omega) (tmodN i 4)) ?_
      refine ws_l rfl rfl rfl rfl (rd_arith (((8 * (i % 4) : Nat) : Nat) : Int) rfl rfl rfl (by rw [wrap_i64 _ (by omega) (by omega)]; omega)) ?_
      refine ws_l rfl rfl rfl rfl (rd_arith (((24 - 8 * (i % 4) : Nat) : Nat) : Int) rfl rfl rfl (by rw [wrap_i64 _ (by omega) (by omega)]; omega)) ?_
      refine ws_l rfl rfl rfl rfl (rd_shr _ rfl rfl (by omega) (shr_32 _ (24 - 8 * (i % 4)) (by omega))) ?_
      refine ws_l rfl rfl rfl rfl (rd_conv rfl (run_conv_int _ Tryz.underlying149 Tryz.underlying5 (u32_8 _))) ?_
      refine ws_l rfl rfl rfl rfl (rd_ixArr (i) rfl rfl Tryz.underlying36 Tryz.sizeOf5 ⟨by omega, by omega⟩ (by rw [Int.toNat_natCast, Nat.mul_one, Nat.zero_add])) ?_
      refine ws_store rfl rfl rfl rfl (by first | exact .inl (by assumption) | exact .inr (by simp)) (fun _ h _ => by first | (cases h; done) | exact List.mem_cons_of_mem _ h | exact List.mem_cons_of_mem _ (List.mem_cons_of_mem _ h) | (simp at h ⊢; simp [h])) ?_
      rw [dig_set _ i hi32]
      refine ws_nil ?_
      refine qe_block ?_
      refine qe_then ?_
      refine wc_plain [(0, .x true), (1, .x true), (2, .x true)] (by kernel_rfl) ?_
      refine ws_l rfl rfl rfl rfl (rd_move rfl) ?_
      refine ws_l rfl rfl rfl rfl (rd_arith (((i + 1 : Nat) : Nat) : Int) rfl rfl rfl (by rw [wrap_i64 _ (by omega) (by omega)]; omega)) ?_
      refine ws_l rfl rfl rfl rfl (rd_assign rfl) ?_
      refine ws_nil ?_
      exact qe_loop fun ac2 w2 hs2 => ⟨_, by (simp only [cmpP] at h134; omega), i + 1, _, rfl, (by simp only [cmpP] at h134; omega), (rfl), st_sub hs2 _ rfl⟩
    · intro h134
      refine ws_nil ?_
      refine qe_then ?_
      refine wc_false rfl ?_
      refine wc_exit ?_
      refine qe_then_exit ?_
      refine qe_then_exit ?_
      refine qe_block_exit ?_
      refine qe_then ?_
      refine wc_seq ?_
      refine wc_plain [(0, .x true), (1, .x true)] (by kernel_rfl) ?_
      refine ws_l rfl rfl rfl rfl (rd_load rfl) ?_
      refine ws_store rfl rfl rfl rfl (by first | exact .inl (by assumption) | exact .inr (by simp)) (fun _ h _ => by first | (cases h; done) | exact List.mem_cons_of_mem _ h | exact List.mem_cons_of_mem _ (List.mem_cons_of_mem _ h) | (simp at h ⊢; simp [h])) ?_
      refine ws_nil ?_
      refine qe_then ?_
      refine wc_keep [(2, _)] rfl ?_
      refine wc_ret ?_
      refine qe_body _ (.inl rfl) (res1 rfl (RV.cell rfl)) ?_
      obtain rfl : i = 32 := by simp only [cmpP] at h134; omega
      exact ret_end fun w hp hn ho => rfl
set_option maxRecDepth 100000 in
set_option maxHeartbeats 1000000 in
theorem half_ref (v : Value) (φ : Heap) (bs : List UInt8) (hl : bs.length = 17) (hsrc : Src φ v 1 17 (byL bs)) (w : World) (hφ : HpOK φ w) (hnd : (φ.map Prod.fst).Nodup) : Ret Tryz.prog 45 [v] w [] (fun u _ => u = idK (halfF (digF bs))) := by
  refine enter (n := 11) (args := [v]) [] φ Tryz.func45 rfl rfl rfl hφ hnd ?_
  refine wc_seq ?_
  refine wc_plain [(0, .x true)] (by kernel_rfl) ?_
  refine ws_alloc rfl rfl rfl ?_
  intro b2 hb2
  refine ws_nil ?_
  refine qe_then ?_
  refine wc_seq ?_
  refine wc_plain [(0, .x true), (1, .x true), (2, .x true), (3, .x true)] (by kernel_rfl) ?_
  refine ws_l rfl rfl rfl rfl (rd_move rfl) ?_
  refine ws_callp rfl rfl rfl rfl rfl (En.go) (fun w hp hn ho => sum_ref v φ bs hl hsrc w (hp.mono SubH.mem) hnd) ?_
  refine ws_alloc rfl rfl rfl ?_
  intro b3 hb3
  refine ws_store rfl rfl rfl rfl (by first | exact .inl (by assumption) | exact .inr (by simp)) (fun _ h _ => by first | (cases h; done) | exact List.mem_cons_of_mem _ h | exact List.mem_cons_of_mem _ (List.mem_cons_of_mem _ h) | (simp at h ⊢; simp [h])) ?_
  refine ws_nil ?_
  refine qe_then ?_
  refine wc_seq ?_
  refine wc_plain [(0, .x true)] (by kernel_rfl) ?_
  refine ws_alloc rfl rfl rfl ?_
  intro b4 hb4
  refine ws_nil ?_
  refine qe_then ?_
  refine wc_seq ?_
  refine wc_drawn mixedT _ (fun _ h => h) [(0, .r), (1, .r), (2, .x true)] (by kernel_rfl) ?_
  refine ws_r rfl rfl rfl rfl (rd_sliceArr rfl Tryz.underlying28 rfl Tryz.sizeOf5) ?_
  refine ws_r rfl rfl rfl rfl (rd_sliceArrHi (j := 16) rfl rfl Tryz.underlying36 (by omega) Tryz.sizeOf5) ?_
  refine ws_late rfl ?_
  refine ws_copy (news := (idC (halfF (digF bs))).toList) (cur' := idC (halfF (digF bs))) rfl rfl rfl rfl rfl Tryz.underlying87 (by kernel_rfl) (by simp [idC_size]) (fun j v hj => by have hj2 := (List.getElem?_eq_some_iff.1 hj).1; rw [half_at _ j (by simpa [idC_size] using hj2)]; simpa using hj) (fun v hv => idC_one _ v hv) (by simp [idC_size]) (half_fill (by simp [idC_size])) (.inl (by assumption)) (fun _ h _ => by first | (cases h; done) | skip) ?_
  refine ws_nil ?_
  refine qe_then ?_
  refine wc_keep [(2, _), (4, _)] rfl ?_
  refine wc_seq ?_
  refine wc_plain [(0, .x true), (1, .x true)] (by kernel_rfl) ?_
  refine ws_l rfl rfl rfl rfl (rd_load rfl) ?_
  refine ws_store rfl rfl rfl rfl (by first | exact .inl (by assumption) | exact .inr (by simp)) (fun _ h _ => by first | (cases h; done) | exact List.mem_cons_of_mem _ h | exact List.mem_cons_of_mem _ (List.mem_cons_of_mem _ h) | (simp at h ⊢; simp [h])) ?_
  refine ws_nil ?_
  refine qe_then ?_
  refine wc_ret ?_
  refine qe_body _ (.inl rfl) (res1 rfl (RV.cell rfl)) ?_
  exact ret_end fun w hp hn ho => rfl
instance (x : UInt8) : BuildsS Tryz.prog 87 1 [(0, u8v x)] 5 #[u8v x] := BuildsS.one Tryz.underlying87 Tryz.sizeOf5 rfl rfl Tryz.zeroValue5 rfl rfl
set_option maxRecDepth 100000 in
set_option maxHeartbeats 1000000 in
theorem bytes_ref (h : Int) (r : Au) (w : World) : Ret Tryz.prog 46 [I h, idK r] w [] (fun u w' => ∃ (ν' : Heap), OwnR w.heap.size 5 1 u ν' 17 (byL (pubB (hB h) r)) ∧ HpOK ν' w') := by
  refine enter (n := 10) (args := [I h, idK r]) [] [] Tryz.func46 rfl rfl rfl (HpOK.nil w) (by simp) ?_
  refine wc_seq ?_
  refine wc_plain [(0, .x true), (1, .x true)] (by kernel_rfl) ?_
  refine ws_box rfl rfl rfl rfl ?_
  intro b3 hb3
  refine ws_l rfl rfl rfl rfl (rd_assign rfl) ?_
  refine ws_nil ?_
  refine qe_then ?_
  refine wc_seq ?_
  refine wc_plain [(0, .x true), (1, .x true), (2, .x true), (3, .x true), (4, .x true), (5, .x true)] (by kernel_rfl) ?_
  refine ws_l rfl rfl rfl rfl (rd_move rfl) ?_
  refine ws_l rfl rfl rfl rfl (rd_conv rfl (run_conv_int _ Tryz.underlying3 Tryz.underlying5 (hB_wrap h))) ?_
  refine ws_buildSlice rfl rfl rfl rfl ?_
  intro b7 hb7
  refine ws_l rfl rfl rfl rfl (rd_sliceArr rfl Tryz.underlying28 rfl Tryz.sizeOf5) ?_
  have hlit := OwnR.lit (E := 5) (k := 1) (n := 1) (cs := #[u8v (hB h)]) hb7 rfl (by simp [maxLen])
  refine ws_appendS rfl rfl rfl rfl rfl hlit (byL_src (E := 28) (fr := (0, 0)) (inferInstance : BytesAt (idC r) 0 16 r.toList) (by simp)) (fun u hu => by obtain ⟨x, _, rfl⟩ := List.mem_map.1 hu; rfl) (by simp only [maxLen]; omega) (by omega) (fun _ _ _ h => by first | (cases h; done) | (simp only [List.mem_append, List.mem_cons] at h ⊢; grind) | skip) ?_
  intro va νa howna
  refine ws_l rfl rfl rfl rfl (rd_assign rfl) ?_
  refine ws_nil ?_
  refine qe_then ?_
  refine wc_keep [(4, _)] rfl ?_
  refine wc_ret ?_
  refine qe_body _ (.inl rfl) (res1 rfl (RV.tmp rfl)) ?_
  exact ret_end fun w hp hn ho => ⟨νa, by simpa [pubB, byL] using howna, hp.mono (by intro q hq; simp [hq])⟩
set_option maxRecDepth 100000 in
set_option maxHeartbeats 1000000 in
theorem author_ref (h : Int) (r : Au) (w : World) : Ret Tryz.prog 27 [I h, idK r] w [] (fun u _ => u = idK (ofF ⟨h, r⟩)) := by
  refine enter (n := 9) (args := [I h, idK r]) [] [] Tryz.func27 rfl rfl rfl (HpOK.nil w) (by simp) ?_
  refine wc_seq ?_
  refine wc_plain [(0, .x true), (1, .x true)] (by kernel_rfl) ?_
  refine ws_box rfl rfl rfl rfl ?_
  intro b3 hb3
  refine ws_alloc rfl rfl rfl ?_
  intro b4 hb4
  refine ws_nil ?_
  refine qe_then ?_
  refine wc_seq ?_
  refine wc_plain [(0, .x true), (1, .x true), (2, .x true), (3, .x true), (4, .x true)] (by kernel_rfl) ?_
  refine ws_l rfl rfl rfl rfl (rd_move rfl) ?_
  refine ws_l rfl rfl rfl rfl (rd_load rfl) ?_
  refine ws_call rfl rfl rfl rfl rfl (En.go) (fun w hp hn ho => bytes_ref h r w) (fun _ h => by cases h) (fun hh q h => by first | (cases h; done) | exact hh q h) ?_
  rintro v7 wa wb hpo hon hon2 hp1 ⟨ν7, hown7, hν7⟩
  refine ⟨ν7, hν7, hown7.nd, fun b hb => .inl (hown7.far b hb), ?_⟩
  replace hown7 := hown7.mono hon.size
  refine ws_callp rfl rfl rfl rfl rfl (En.go) (fun w hp hn ho => half_ref v7 ν7 (pubB (hB h) r) (pubB_len _ _) hown7.src w (hp.mono SubH.mem) hown7.nd) ?_
  refine ws_store rfl rfl rfl rfl (by first | exact .inl (by assumption) | exact .inr (by simp)) (fun _ h _ => by first | (cases h; done) | exact List.mem_cons_of_mem _ h | exact List.mem_cons_of_mem _ (List.mem_cons_of_mem _ h) | (simp at h ⊢; simp [h])) ?_
  refine ws_nil ?_
  refine qe_then ?_
  refine wc_keep [(4, _)] rfl ?_
  refine wc_ret ?_
  refine qe_body _ (.inl rfl) (res1 rfl (RV.cell rfl)) ?_
  exact ret_end fun w hp hn ho => rfl
set_option maxRecDepth 100000 in
set_option maxHeartbeats 1000000 in
theorem of_ref (p : Pub) (w : World) : Ret Tryz.prog 7 [pubK p] w [] (fun u _ => u = idK (ofF p)) := by
  refine enter (n := 8) (args := [pubK p]) [] [] Tryz.func7 rfl rfl rfl (HpOK.nil w) (by simp) ?_
  refine wc_seq ?_
  refine wc_plain [(0, .x true), (1, .x true)] (by kernel_rfl) ?_
  refine ws_box rfl rfl rfl rfl ?_
  intro b1 hb1
  refine ws_alloc rfl rfl rfl ?_
  intro b2 hb2
  refine ws_nil ?_
  refine qe_then ?_
  refine wc_seq ?_
  refine wc_plain [(0, .x true), (1, .x true), (2, .x true), (3, .x true), (4, .x true), (5, .x true)] (by kernel_rfl) ?_
  refine ws_l rfl rfl rfl rfl (rd_fieldAddr rfl) ?_
  refine ws_l rfl rfl rfl rfl (rd_load rfl) ?_
  refine ws_l rfl rfl rfl rfl (rd_fieldAddr rfl) ?_
  refine ws_l rfl rfl rfl rfl (rd_load rfl) ?_
  refine ws_callp rfl rfl rfl rfl rfl (En.go) (fun w hp hn ho => author_ref p.h p.root w) ?_
  refine ws_store rfl rfl rfl rfl (by first | exact .inl (by assumption) | exact .inr (by simp)) (fun _ h _ => by first | (cases h; done) | exact List.mem_cons_of_mem _ h | exact List.mem_cons_of_mem _ (List.mem_cons_of_mem _ h) | (simp at h ⊢; simp [h])) ?_
  refine ws_nil ?_
  refine qe_then ?_
  refine wc_keep [(2, _)] rfl ?_
  refine wc_ret ?_
  refine qe_body _ (.inl rfl) (res1 rfl (RV.cell rfl)) ?_
  exact ret_end fun w hp hn ho => rfl

end Go.Proofs.YtheioljidangkaaGreat
