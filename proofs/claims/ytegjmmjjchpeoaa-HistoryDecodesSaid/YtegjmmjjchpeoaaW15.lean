/- Walks: numbers, an entry, Chunk. No conditions. -/
import Derived.Test.YtegjmmjjchpeoaaW11
import Derived.Test.YtegjmmjjchpeoaaByt
namespace Go.Proofs.Ytegjmmjjchpeoaa
open Go Go.RowKit Go.Sx
set_option linter.unusedSimpArgs false
set_option linter.unusedVariables false

theorem rel_snoc {L : HMap} {rows : List Ent} (h : Rel L rows) (x : Ent) (hlt : ∀ y ∈ rows, idLt y.id x.id) : Rel (upd L x.id x) (rows ++ [x]) := by
  have hn : mlook L x.id = none := (h.look_none x.id).2 fun y hy e => idLt_ne (hlt y hy) e
  rw [upd_new hn]
  refine ⟨by rw [List.map_append]; exact h.perm.append_right _, ?_⟩
  rw [List.pairwise_append]
  exact ⟨h.srt, by simp, fun y hy z hz => by simp at hz; subst hz; exact hlt y hy⟩
theorem and2_ne (a : Nat) : (((a / 2 % 2 * 2 : Nat) : Int) != 0) = decide (a / 2 % 2 = 1) := by
  rcases (show a / 2 % 2 = 0 ∨ a / 2 % 2 = 1 by omega) with h | h <;> rw [h] <;> rfl
theorem range_split {k x : Nat} {pre rest : List Nat} (h : List.range k = pre ++ x :: rest) : x = pre.length ∧ pre.length < k := by
  have h1 : (List.range k)[pre.length]? = some x := by rw [h]; simp
  have hl : pre.length < k := by have := (List.getElem?_eq_some_iff.1 h1).1; simpa using this
  rw [List.getElem?_range hl] at h1
  cases h1
  exact ⟨rfl, hl⟩
set_option maxRecDepth 100000 in
set_option maxHeartbeats 1000000 in
theorem number_ret (g o n c : Nat) (cs : Array Value) (E : TypeId) (fr : Nat × Nat) (bs : List UInt8) (hB : BytesAt cs o n bs) (k : Nat) (hk : k + 4 ≤ n) (hn : n < 4611686018427387904) (w : World) (hη : HpOK [(g, .cells cs E fr)] w) : Ret Try.prog 56 [.slice (some ⟨g, o, none⟩) n c, I ((k : Nat) : Int)] w [] (fun v _ => v = I (n4 bs k)) := by
  refine enter (n := 34) (args := [.slice (some ⟨g, o, none⟩) n c, I ((k : Nat) : Int)]) [] [(g, .cells cs E fr)] Try.func56 rfl rfl rfl hη (by simp) ?_
  refine wc_seq ?_
  refine wc_plain [(0, .x true)] (by kernel_rfl) ?_
  refine ws_l rfl rfl rfl rfl (rd_assign rfl) ?_
  refine ws_nil ?_
  refine qe_then ?_
  refine wc_seq ?_
  refine wc_drawn mixedT _ (fun _ h => h) [(0, .r), (1, .r), (2, .r), (3, .r), (4, .r), (5, .r), (6, .r), (7, .r), (8, .r), (9, .r), (10, .r), (11, .r), (12, .r), (13, .r), (14, .r), (15, .r), (16, .r), (17, .r), (18, .r), (19, .r), (20, .r), (21, .r), (22, .r), (23, .r), (24, .r), (25, .r), (26, .r), (27, .r), (28, .x true), (29, .x true)] (by kernel_rfl) ?_
  refine ws_r rfl rfl rfl rfl (rd_move rfl) ?_
  refine ws_r rfl rfl rfl rfl (rd_move rfl) ?_
  have hg0 : GetAt cs (o + (k)) (.int .u8 ((byteAt bs (k) : Nat) : Int)) := ⟨bytes_get hB (k) (by omega)⟩
  have hl0 := byteAt_lt bs (k)
  refine ws_r rfl rfl rfl rfl (rd_index (o + (k)) rfl rfl Try.underlying64 Try.sizeOf5 ⟨by omega, by omega⟩ (by omega)) ?_
  refine ws_r rfl rfl rfl rfl (rd_load rfl) ?_
  refine ws_r rfl rfl rfl rfl (rd_conv rfl (run_conv_int ((byteAt bs (k) : Nat) : Int) Try.underlying5 Try.underlying3 (wrap_i64 _ (by omega) (by omega)))) ?_
  refine ws_r rfl rfl rfl rfl (rd_shl ((byteAt bs (k) * 16777216 : Nat) : Int) rfl rfl (by decide) (shl_i64 (byteAt bs (k)) 24 (by omega) (by omega))) ?_
  refine ws_r rfl rfl rfl rfl (rd_move rfl) ?_
  refine ws_r rfl rfl rfl rfl (rd_move rfl) ?_
  refine ws_r rfl rfl rfl rfl (rd_arith ((k + 1 : Nat) : Int) rfl rfl rfl (by rw [wrap_i64 _ (by omega) (by omega)]; omega)) ?_
  have hg1 : GetAt cs (o + (k + 1)) (.int .u8 ((byteAt bs (k + 1) : Nat) : Int)) := ⟨bytes_get hB (k + 1) (by omega)⟩
  have hl1 := byteAt_lt bs (k + 1)
  refine ws_r rfl rfl rfl rfl (rd_index (o + (k + 1)) rfl rfl Try.underlying64 Try.sizeOf5 ⟨by omega, by omega⟩ (by omega)) ?_
  refine ws_r rfl rfl rfl rfl (rd_load rfl) ?_
  refine ws_r rfl rfl rfl rfl (rd_conv rfl (run_conv_int ((byteAt bs (k + 1) : Nat) : Int) Try.underlying5 Try.underlying3 (wrap_i64 _ (by omega) (by omega)))) ?_
  refine ws_r rfl rfl rfl rfl (rd_shl ((byteAt bs (k + 1) * 65536 : Nat) : Int) rfl rfl (by decide) (shl_i64 (byteAt bs (k + 1)) 16 (by omega) (by omega))) ?_
  refine ws_r rfl rfl rfl rfl (rd_bits ((byteAt bs k * 16777216 + byteAt bs (k + 1) * 65536 : Nat) : Int) rfl rfl (bits_or _ _ 24 (by show 16777216 ∣ _; omega) (by omega) (by omega))) ?_
  refine ws_r rfl rfl rfl rfl (rd_move rfl) ?_
  refine ws_r rfl rfl rfl rfl (rd_move rfl) ?_
  refine ws_r rfl rfl rfl rfl (rd_arith ((k + 2 : Nat) : Int) rfl rfl rfl (by rw [wrap_i64 _ (by omega) (by omega)]; omega)) ?_
  have hg2 : GetAt cs (o + (k + 2)) (.int .u8 ((byteAt bs (k + 2) : Nat) : Int)) := ⟨bytes_get hB (k + 2) (by omega)⟩
  have hl2 := byteAt_lt bs (k + 2)
  refine ws_r rfl rfl rfl rfl (rd_index (o + (k + 2)) rfl rfl Try.underlying64 Try.sizeOf5 ⟨by omega, by omega⟩ (by omega)) ?_
  refine ws_r rfl rfl rfl rfl (rd_load rfl) ?_
  refine ws_r rfl rfl rfl rfl (rd_conv rfl (run_conv_int ((byteAt bs (k + 2) : Nat) : Int) Try.underlying5 Try.underlying3 (wrap_i64 _ (by omega) (by omega)))) ?_
  refine ws_r rfl rfl rfl rfl (rd_shl ((byteAt bs (k + 2) * 256 : Nat) : Int) rfl rfl (by decide) (shl_i64 (byteAt bs (k + 2)) 8 (by omega) (by omega))) ?_
  refine ws_r rfl rfl rfl rfl (rd_bits ((byteAt bs k * 16777216 + byteAt bs (k + 1) * 65536 + byteAt bs (k + 2) * 256 : Nat) : Int) rfl rfl (bits_or _ _ 16 (by show 65536 ∣ _; omega) (by omega) (by omega))) ?_
  refine ws_r rfl rfl rfl rfl (rd_move rfl) ?_
  refine ws_r rfl rfl rfl rfl (rd_move rfl) ?_
  refine ws_r rfl rfl rfl rfl (rd_arith ((k + 3 : Nat) : Int) rfl rfl rfl (by rw [wrap_i64 _ (by omega) (by omega)]; omega)) ?_
  have hg3 : GetAt cs (o + (k + 3)) (.int .u8 ((byteAt bs (k + 3) : Nat) : Int)) := ⟨bytes_get hB (k + 3) (by omega)⟩
  have hl3 := byteAt_lt bs (k + 3)
  refine ws_r rfl rfl rfl rfl (rd_index (o + (k + 3)) rfl rfl Try.underlying64 Try.sizeOf5 ⟨by omega, by omega⟩ (by omega)) ?_
  refine ws_r rfl rfl rfl rfl (rd_load rfl) ?_
  refine ws_r rfl rfl rfl rfl (rd_conv rfl (run_conv_int ((byteAt bs (k + 3) : Nat) : Int) Try.underlying5 Try.underlying3 (wrap_i64 _ (by omega) (by omega)))) ?_
  refine ws_late rfl ?_
  refine ws_l rfl rfl rfl rfl (rd_bits ((byteAt bs k * 16777216 + byteAt bs (k + 1) * 65536 + byteAt bs (k + 2) * 256 + byteAt bs (k + 3) : Nat) : Int) rfl rfl (bits_or _ _ 8 (by show 256 ∣ _; omega) (by omega) (by omega))) ?_
  refine ws_l rfl rfl rfl rfl (rd_assign rfl) ?_
  refine ws_nil ?_
  refine qe_then ?_
  refine wc_keep [(4, _)] rfl ?_
  refine wc_ret ?_
  refine qe_body _ (.inl rfl) (res1 rfl (RV.tmp rfl)) ?_
  exact ret_end fun w hp hn ho => rfl
set_option maxRecDepth 100000 in
set_option maxHeartbeats 1000000 in
theorem number_ref (g o n c : Nat) (cs : Array Value) (E : TypeId) (fr : Nat × Nat) (bs : List UInt8) (hB : BytesAt cs o n bs) (hk : 4 ≤ n) (w : World) (hη : HpOK [(g, .cells cs E fr)] w) : Ret Try.prog 59 [.slice (some ⟨g, o, none⟩) n c] w [] (fun v _ => v = I (n4 bs 0)) := by
  refine enter (n := 25) (args := [.slice (some ⟨g, o, none⟩) n c]) [] [(g, .cells cs E fr)] Try.func59 rfl rfl rfl hη (by simp) ?_
  refine wc_seq ?_
  refine wc_plain [(0, .x true)] (by kernel_rfl) ?_
  refine ws_l rfl rfl rfl rfl (rd_assign rfl) ?_
  refine ws_nil ?_
  refine qe_then ?_
  refine wc_seq ?_
  refine wc_drawn mixedT _ (fun _ h => h) [(0, .r), (1, .r), (2, .r), (3, .r), (4, .r), (5, .r), (6, .r), (7, .r), (8, .r), (9, .r), (10, .r), (11, .r), (12, .r), (13, .r), (14, .r), (15, .r), (16, .r), (17, .r), (18, .r), (19, .r), (20, .r), (21, .x true), (22, .x true)] (by kernel_rfl) ?_
  refine ws_r rfl rfl rfl rfl (rd_move rfl) ?_
  have hg0 : GetAt cs (o + (0)) (.int .u8 ((byteAt bs (0) : Nat) : Int)) := ⟨bytes_get hB (0) (by omega)⟩
  have hl0 := byteAt_lt bs (0)
  refine ws_r rfl rfl rfl rfl (rd_index (o + (0)) rfl rfl Try.underlying64 Try.sizeOf5 ⟨by omega, by omega⟩ (by omega)) ?_
  refine ws_r rfl rfl rfl rfl (rd_load rfl) ?_
  refine ws_r rfl rfl rfl rfl (rd_conv rfl (run_conv_int ((byteAt bs (0) : Nat) : Int) Try.underlying5 Try.underlying3 (wrap_i64 _ (by omega) (by omega)))) ?_
  refine ws_r rfl rfl rfl rfl (rd_arith ((byteAt bs 0 * 16777216 : Nat) : Int) rfl rfl rfl (by rw [wrap_i64 _ (by omega) (by omega)]; omega)) ?_
  refine ws_r rfl rfl rfl rfl (rd_move rfl) ?_
  have hg1 : GetAt cs (o + (1)) (.int .u8 ((byteAt bs (1) : Nat) : Int)) := ⟨bytes_get hB (1) (by omega)⟩
  have hl1 := byteAt_lt bs (1)
  refine ws_r rfl rfl rfl rfl (rd_index (o + (1)) rfl rfl Try.underlying64 Try.sizeOf5 ⟨by omega, by omega⟩ (by omega)) ?_
  refine ws_r rfl rfl rfl rfl (rd_load rfl) ?_
  refine ws_r rfl rfl rfl rfl (rd_conv rfl (run_conv_int ((byteAt bs (1) : Nat) : Int) Try.underlying5 Try.underlying3 (wrap_i64 _ (by omega) (by omega)))) ?_
  refine ws_r rfl rfl rfl rfl (rd_arith ((byteAt bs 1 * 65536 : Nat) : Int) rfl rfl rfl (by rw [wrap_i64 _ (by omega) (by omega)]; omega)) ?_
  refine ws_r rfl rfl rfl rfl (rd_arith ((byteAt bs 0 * 16777216 + byteAt bs 1 * 65536 : Nat) : Int) rfl rfl rfl (by rw [wrap_i64 _ (by omega) (by omega)]; omega)) ?_
  refine ws_r rfl rfl rfl rfl (rd_move rfl) ?_
  have hg2 : GetAt cs (o + (2)) (.int .u8 ((byteAt bs (2) : Nat) : Int)) := ⟨bytes_get hB (2) (by omega)⟩
  have hl2 := byteAt_lt bs (2)
  refine ws_r rfl rfl rfl rfl (rd_index (o + (2)) rfl rfl Try.underlying64 Try.sizeOf5 ⟨by omega, by omega⟩ (by omega)) ?_
  refine ws_r rfl rfl rfl rfl (rd_load rfl) ?_
  refine ws_r rfl rfl rfl rfl (rd_conv rfl (run_conv_int ((byteAt bs (2) : Nat) : Int) Try.underlying5 Try.underlying3 (wrap_i64 _ (by omega) (by omega)))) ?_
  refine ws_r rfl rfl rfl rfl (rd_arith ((byteAt bs 2 * 256 : Nat) : Int) rfl rfl rfl (by rw [wrap_i64 _ (by omega) (by omega)]; omega)) ?_
  refine ws_r rfl rfl rfl rfl (rd_arith ((byteAt bs 0 * 16777216 + byteAt bs 1 * 65536 + byteAt bs 2 * 256 : Nat) : Int) rfl rfl rfl (by rw [wrap_i64 _ (by omega) (by omega)]; omega)) ?_
  refine ws_r rfl rfl rfl rfl (rd_move rfl) ?_
  have hg3 : GetAt cs (o + (3)) (.int .u8 ((byteAt bs (3) : Nat) : Int)) := ⟨bytes_get hB (3) (by omega)⟩
  have hl3 := byteAt_lt bs (3)
  refine ws_r rfl rfl rfl rfl (rd_index (o + (3)) rfl rfl Try.underlying64 Try.sizeOf5 ⟨by omega, by omega⟩ (by omega)) ?_
  refine ws_r rfl rfl rfl rfl (rd_load rfl) ?_
  refine ws_r rfl rfl rfl rfl (rd_conv rfl (run_conv_int ((byteAt bs (3) : Nat) : Int) Try.underlying5 Try.underlying3 (wrap_i64 _ (by omega) (by omega)))) ?_
  refine ws_late rfl ?_
  refine ws_l rfl rfl rfl rfl (rd_arith ((byteAt bs 0 * 16777216 + byteAt bs 1 * 65536 + byteAt bs 2 * 256 + byteAt bs 3 : Nat) : Int) rfl rfl rfl (by rw [wrap_i64 _ (by omega) (by omega)]; omega)) ?_
  refine ws_l rfl rfl rfl rfl (rd_assign rfl) ?_
  refine ws_nil ?_
  refine qe_then ?_
  refine wc_keep [(2, _)] rfl ?_
  refine wc_ret ?_
  refine qe_body _ (.inl rfl) (res1 rfl (RV.tmp rfl)) ?_
  exact ret_end fun w hp hn ho => rfl
set_option maxRecDepth 100000 in
set_option maxHeartbeats 1000000 in
theorem entry_ret (g o c : Nat) (cs : Array Value) (E : TypeId) (fr : Nat × Nat) (bs : List UInt8) (hB : BytesAt cs o 41 bs) (hc : 41 ≤ c) (w : World) (hη : HpOK [(g, .cells cs E fr)] w) : Ret Try.prog 58 [.slice (some ⟨g, o, none⟩) 41 c] w [] (fun v _ => v = .tuple #[entK (entAt bs 0), .bool (decide (byteAt bs 40 ≤ 3 ∧ checkE (entAt bs 0) = 0))]) := by
  refine enter (n := 32) (args := [.slice (some ⟨g, o, none⟩) 41 c]) [] [(g, .cells cs E fr)] Try.func58 rfl rfl rfl hη (by simp) ?_
  refine wc_seq ?_
  refine wc_plain [(0, .x true), (1, .x true)] (by kernel_rfl) ?_
  refine ws_alloc rfl rfl rfl ?_
  intro b2 hb2
  refine ws_l rfl rfl rfl rfl (rd_assign rfl) ?_
  refine ws_nil ?_
  refine qe_then ?_
  refine wc_seq ?_
  refine wc_plain [(0, .x true), (1, .x true), (2, .x true), (3, .x true)] (by kernel_rfl) ?_
  refine ws_l rfl rfl rfl rfl (rd_move rfl) ?_
  have hg40 : GetAt cs (o + (40)) (.int .u8 ((byteAt bs (40) : Nat) : Int)) := ⟨bytes_get hB (40) (by omega)⟩
  have hl40 := byteAt_lt bs (40)
  refine ws_l rfl rfl rfl rfl (rd_index (o + (40)) rfl rfl Try.underlying64 Try.sizeOf5 ⟨by omega, by omega⟩ (by omega)) ?_
  refine ws_l rfl rfl rfl rfl (rd_load rfl) ?_
  refine ws_l rfl rfl rfl rfl (rd_assign rfl) ?_
  refine ws_nil ?_
  refine qe_then ?_
  refine wc_seq ?_
  refine wc_drawnO mixedT _ (fun _ h => h) (.r 0 (.r 1 (.r 2 (.r 3 (.r 4 (.r 6 (.r 8 (.r 9 (.r 10 (.r 11 (.r 12 (.r 13 (.b 5 15 (.b 7 15 (.seq [(14, .r), (15, .x false), (16, .x true)]) (.seq [(7, .x false), (14, .x true), (16, .x true)])) (.seq [(5, .x false), (7, .x false), (14, .x true), (16, .x true)])))))))))))))) (by kernel_rfl) ?_
  refine od_r ?_
  refine ws_r rfl rfl rfl rfl (rd_move rfl) ?_
  refine od_go ?_
  refine od_r ?_
  refine ws_r rfl rfl rfl rfl (rd_sliceHi (j := 32) Try.underlying64 rfl rfl Try.sizeOf5 (by omega)) ?_
  refine od_go ?_
  refine od_r ?_
  have hid : ReadsAt Try.prog 27 cs o (idK (idAt bs 0)) := reads_idAt hB 0 (by omega)
  refine ws_r rfl rfl rfl rfl (rd_toArr rfl Try.underlying27 (by omega)) ?_
  refine od_go ?_
  refine od_r ?_
  refine ws_r rfl rfl rfl rfl (rd_load rfl) ?_
  refine od_go ?_
  refine od_r ?_
  refine ws_r rfl rfl rfl rfl (rd_move rfl) ?_
  refine od_go ?_
  refine od_r ?_
  refine ws_r rfl rfl rfl rfl (rd_move rfl) ?_
  refine od_go ?_
  refine od_r ?_
  refine ws_r rfl rfl rfl rfl (rd_move rfl) ?_
  refine od_go ?_
  refine od_r ?_
  refine ws_r rfl rfl rfl rfl (rd_bits ((byteAt bs 40 % 2 : Nat) : Int) rfl rfl (and1_u8 _ hl40)) ?_
  refine od_go ?_
  refine od_r ?_
  refine ws_r rfl rfl rfl rfl (rd_conv rfl (run_conv_int ((byteAt bs 40 % 2 : Nat) : Int) Try.underlying5 Try.underlying3 (wrap_i64 _ (by omega) (by omega)))) ?_
  refine od_go ?_
  refine od_r ?_
  refine ws_r rfl rfl rfl rfl (rd_move rfl) ?_
  refine od_go ?_
  refine od_r ?_
  refine ws_r rfl rfl rfl rfl (rd_bits ((byteAt bs 40 / 2 % 2 * 2 : Nat) : Int) rfl rfl (and2_u8 _ hl40)) ?_
  refine od_go ?_
  refine od_r ?_
  refine ws_r rfl rfl rfl rfl (rd_cmp (decide (byteAt bs 40 / 2 % 2 = 1)) rfl rfl (congrArg some (and2_ne _))) ?_
  refine od_go ?_
  refine od_b ?_ ?_
  ·
    refine ws_callp rfl rfl rfl rfl rfl (En.go) (fun w hp hn ho => number_ret g o 41 c cs E fr bs hB 32 (by omega) (by omega) w (hp.mono (by simp))) ?_
    refine od_go ?_
    refine od_b ?_ ?_
    ·
      refine ws_callp rfl rfl rfl rfl rfl (En.go) (fun w hp hn ho => number_ret g o 41 c cs E fr bs hB 36 (by omega) (by omega) w (hp.mono (by simp))) ?_
      refine od_go ?_
      refine od_seq ?_
      refine ws_r rfl rfl rfl rfl (rd_build rfl) ?_
      rw [show entC ⟨idAt bs 0, n4 bs 32, n4 bs 36, ((byteAt bs 40 % 2 : Nat) : Int), decide (byteAt bs 40 / 2 % 2 = 1)⟩ = entC (entAt bs 0) from rfl]
      refine ws_alloc rfl rfl rfl ?_
      intro b5 hb5
      refine ws_late rfl ?_
      refine ws_store rfl rfl rfl rfl (by first | exact .inl (by assumption) | exact .inr (by simp)) (fun _ h _ => by first | (cases h; done) | exact List.mem_cons_of_mem _ h | exact List.mem_cons_of_mem _ (List.mem_cons_of_mem _ h) | (simp at h ⊢; simp [h])) ?_
      refine ws_nil ?_
      refine qe_then ?_
      refine wc_keep [(2, _), (3, _), (4, _), (5, _)] rfl ?_
      refine wc_seq ?_
      refine wc_drawn mixedT [(b5, .cells (entC (entAt bs 0)) 29 (0, 0))] (by simp) [(0, .r), (1, .r), (2, .r), (3, .r), (4, .r), (5, .x false), (6, .r), (7, .r), (8, .x false), (9, .x true)] (by kernel_rfl) ?_
      refine ws_r rfl rfl rfl rfl (rd_load rfl) ?_
      refine ws_r rfl rfl rfl rfl (rd_move rfl) ?_
      refine ws_rcmp rfl rfl rfl (rfl) (rfl) (rfl) ?_ ?_
      · intro h26
        refine ws_r rfl rfl rfl rfl (rd_move rfl) ?_
        refine ws_r rfl rfl rfl rfl (rd_load rfl) ?_
        refine ws_callp rfl rfl rfl rfl rfl (En.go) (fun w hp hn ho => check_ret _ w) ?_
        refine ws_rcmp rfl rfl rfl (rfl) (rfl) (rfl) ?_ ?_
        · intro h30
          refine ws_r rfl rfl rfl rfl (rd_pick_t rfl rfl) ?_
          refine ws_store rfl rfl rfl rfl (by first | exact .inl (by assumption) | exact .inr (by simp)) (fun _ h _ => by first | (cases h; done) | exact List.mem_cons_of_mem _ h | exact List.mem_cons_of_mem _ (List.mem_cons_of_mem _ h) | (simp at h ⊢; simp [h])) ?_
          refine ws_late rfl ?_
          refine ws_l rfl rfl rfl rfl (rd_assign rfl) ?_
          refine ws_nil ?_
          refine qe_then ?_
          refine wc_keep [(2, _), (3, _)] rfl ?_
          refine wc_ret ?_
          refine qe_body _ (.inl rfl) (res2 rfl (RV.cell rfl) (RV.tmp rfl)) ?_
          exact ret_end fun w hp hn ho => by (try simp only [cmpP, ne_eq, Decidable.not_not] at *); simp [*]; try omega
        · intro h30
          refine ws_r rfl rfl rfl rfl (rd_pick_t rfl rfl) ?_
          refine ws_store rfl rfl rfl rfl (by first | exact .inl (by assumption) | exact .inr (by simp)) (fun _ h _ => by first | (cases h; done) | exact List.mem_cons_of_mem _ h | exact List.mem_cons_of_mem _ (List.mem_cons_of_mem _ h) | (simp at h ⊢; simp [h])) ?_
          refine ws_late rfl ?_
          refine ws_l rfl rfl rfl rfl (rd_assign rfl) ?_
          refine ws_nil ?_
          refine qe_then ?_
          refine wc_keep [(2, _), (3, _)] rfl ?_
          refine wc_ret ?_
          refine qe_body _ (.inl rfl) (res2 rfl (RV.cell rfl) (RV.tmp rfl)) ?_
          exact ret_end fun w hp hn ho => by (try simp only [cmpP, ne_eq, Decidable.not_not] at *); simp [*]; try omega
      · intro h26
        refine ws_r rfl rfl rfl rfl (rd_move rfl) ?_
        refine ws_rskip rfl rfl rfl rfl ?_
        refine ws_xskip rfl rfl rfl rfl ?_
        refine ws_rskip rfl rfl rfl rfl ?_
        refine ws_r rfl rfl rfl rfl (rd_pick_f rfl rfl) ?_
        refine ws_store rfl rfl rfl rfl (by first | exact .inl (by assumption) | exact .inr (by simp)) (fun _ h _ => by first | (cases h; done) | exact List.mem_cons_of_mem _ h | exact List.mem_cons_of_mem _ (List.mem_cons_of_mem _ h) | (simp at h ⊢; simp [h])) ?_
        refine ws_late rfl ?_
        refine ws_l rfl rfl rfl rfl (rd_assign rfl) ?_
        refine ws_nil ?_
        refine qe_then ?_
        refine wc_keep [(2, _), (3, _)] rfl ?_
        refine wc_ret ?_
        refine qe_body _ (.inl rfl) (res2 rfl (RV.cell rfl) (RV.tmp rfl)) ?_
        exact ret_end fun w hp hn ho => by (try simp only [cmpP, ne_eq, Decidable.not_not] at *); simp [*]; try omega
    ·
      refine ws_alloc rfl rfl rfl ?_
      intro b5 hb5
      refine od_go ?_
      refine od_seq ?_
      refine ws_callp rfl rfl rfl rfl rfl (En.go) (fun w hp hn ho => number_ret g o 41 c cs E fr bs hB 36 (by omega) (by omega) w (hp.mono (by simp))) ?_
      refine ws_late rfl ?_
      refine ws_l rfl rfl rfl rfl (rd_build rfl) ?_
      rw [show entC ⟨idAt bs 0, n4 bs 32, n4 bs 36, ((byteAt bs 40 % 2 : Nat) : Int), decide (byteAt bs 40 / 2 % 2 = 1)⟩ = entC (entAt bs 0) from rfl]
      refine ws_store rfl rfl rfl rfl (by first | exact .inl (by assumption) | exact .inr (by simp)) (fun _ h _ => by first | (cases h; done) | exact List.mem_cons_of_mem _ h | exact List.mem_cons_of_mem _ (List.mem_cons_of_mem _ h) | (simp at h ⊢; simp [h])) ?_
      refine ws_nil ?_
      refine qe_then ?_
      refine wc_keep [(2, _), (3, _), (4, _), (5, _)] rfl ?_
      refine wc_seq ?_
      refine wc_drawn mixedT [(b5, .cells (entC (entAt bs 0)) 29 (0, 0))] (by simp) [(0, .r), (1, .r), (2, .r), (3, .r), (4, .r), (5, .x false), (6, .r), (7, .r), (8, .x false), (9, .x true)] (by kernel_rfl) ?_
      refine ws_r rfl rfl rfl rfl (rd_load rfl) ?_
      refine ws_r rfl rfl rfl rfl (rd_move rfl) ?_
      refine ws_rcmp rfl rfl rfl (rfl) (rfl) (rfl) ?_ ?_
      · intro h26
        refine ws_r rfl rfl rfl rfl (rd_move rfl) ?_
        refine ws_r rfl rfl rfl rfl (rd_load rfl) ?_
        refine ws_callp rfl rfl rfl rfl rfl (En.go) (fun w hp hn ho => check_ret _ w) ?_
        refine ws_rcmp rfl rfl rfl (rfl) (rfl) (rfl) ?_ ?_
        · intro h30
          refine ws_r rfl rfl rfl rfl (rd_pick_t rfl rfl) ?_
          refine ws_store rfl rfl rfl rfl (by first | exact .inl (by assumption) | exact .inr (by simp)) (fun _ h _ => by first | (cases h; done) | exact List.mem_cons_of_mem _ h | exact List.mem_cons_of_mem _ (List.mem_cons_of_mem _ h) | (simp at h ⊢; simp [h])) ?_
          refine ws_late rfl ?_
          refine ws_l rfl rfl rfl rfl (rd_assign rfl) ?_
          refine ws_nil ?_
          refine qe_then ?_
          refine wc_keep [(2, _), (3, _)] rfl ?_
          refine wc_ret ?_
          refine qe_body _ (.inl rfl) (res2 rfl (RV.cell rfl) (RV.tmp rfl)) ?_
          exact ret_end fun w hp hn ho => by (try simp only [cmpP, ne_eq, Decidable.not_not] at *); simp [*]; try omega
        · intro h30
          refine ws_r rfl rfl rfl rfl (rd_pick_t rfl rfl) ?_
          refine ws_store rfl rfl rfl rfl (by first | exact .inl (by assumption) | exact .inr (by simp)) (fun _ h _ => by first | (cases h; done) | exact List.mem_cons_of_mem _ h | exact List.mem_cons_of_mem _ (List.mem_cons_of_mem _ h) | (simp at h ⊢; simp [h])) ?_
          refine ws_late rfl ?_
          refine ws_l rfl rfl rfl rfl (rd_assign rfl) ?_
          refine ws_nil ?_
          refine qe_then ?_
          refine wc_keep [(2, _), (3, _)] rfl ?_
          refine wc_ret ?_
          refine qe_body _ (.inl rfl) (res2 rfl (RV.cell rfl) (RV.tmp rfl)) ?_
          exact ret_end fun w hp hn ho => by (try simp only [cmpP, ne_eq, Decidable.not_not] at *); simp [*]; try omega
      · intro h26
        refine ws_r rfl rfl rfl rfl (rd_move rfl) ?_
        refine ws_rskip rfl rfl rfl rfl ?_
        refine ws_xskip rfl rfl rfl rfl ?_
        refine ws_rskip rfl rfl rfl rfl ?_
        refine ws_r rfl rfl rfl rfl (rd_pick_f rfl rfl) ?_
        refine ws_store rfl rfl rfl rfl (by first | exact .inl (by assumption) | exact .inr (by simp)) (fun _ h _ => by first | (cases h; done) | exact List.mem_cons_of_mem _ h | exact List.mem_cons_of_mem _ (List.mem_cons_of_mem _ h) | (simp at h ⊢; simp [h])) ?_
        refine ws_late rfl ?_
        refine ws_l rfl rfl rfl rfl (rd_assign rfl) ?_
        refine ws_nil ?_
        refine qe_then ?_
        refine wc_keep [(2, _), (3, _)] rfl ?_
        refine wc_ret ?_
        refine qe_body _ (.inl rfl) (res2 rfl (RV.cell rfl) (RV.tmp rfl)) ?_
        exact ret_end fun w hp hn ho => by (try simp only [cmpP, ne_eq, Decidable.not_not] at *); simp [*]; try omega
  ·
    refine ws_alloc rfl rfl rfl ?_
    intro b5 hb5
    refine od_go ?_
    refine od_seq ?_
    refine ws_callp rfl rfl rfl rfl rfl (En.go) (fun w hp hn ho => number_ret g o 41 c cs E fr bs hB 32 (by omega) (by omega) w (hp.mono (by simp))) ?_
    refine ws_callp rfl rfl rfl rfl rfl (En.go) (fun w hp hn ho => number_ret g o 41 c cs E fr bs hB 36 (by omega) (by omega) w (hp.mono (by simp))) ?_
    refine ws_late rfl ?_
    refine ws_l rfl rfl rfl rfl (rd_build rfl) ?_
    rw [show entC ⟨idAt bs 0, n4 bs 32, n4 bs 36, ((byteAt bs 40 % 2 : Nat) : Int), decide (byteAt bs 40 / 2 % 2 = 1)⟩ = entC (entAt bs 0) from rfl]
    refine ws_store rfl rfl rfl rfl (by first | exact .inl (by assumption) | exact .inr (by simp)) (fun _ h _ => by first | (cases h; done) | exact List.mem_cons_of_mem _ h | exact List.mem_cons_of_mem _ (List.mem_cons_of_mem _ h) | (simp at h ⊢; simp [h])) ?_
    refine ws_nil ?_
    refine qe_then ?_
    refine wc_keep [(2, _), (3, _), (4, _), (5, _)] rfl ?_
    refine wc_seq ?_
    refine wc_drawn mixedT [(b5, .cells (entC (entAt bs 0)) 29 (0, 0))] (by simp) [(0, .r), (1, .r), (2, .r), (3, .r), (4, .r), (5, .x false), (6, .r), (7, .r), (8, .x false), (9, .x true)] (by kernel_rfl) ?_
    refine ws_r rfl rfl rfl rfl (rd_load rfl) ?_
    refine ws_r rfl rfl rfl rfl (rd_move rfl) ?_
    refine ws_rcmp rfl rfl rfl (rfl) (rfl) (rfl) ?_ ?_
    · intro h26
      refine ws_r rfl rfl rfl rfl (rd_move rfl) ?_
      refine ws_r rfl rfl rfl rfl (rd_load rfl) ?_
      refine ws_callp rfl rfl rfl rfl rfl (En.go) (fun w hp hn ho => check_ret _ w) ?_
      refine ws_rcmp rfl rfl rfl (rfl) (rfl) (rfl) ?_ ?_
      · intro h30
        refine ws_r rfl rfl rfl rfl (rd_pick_t rfl rfl) ?_
        refine ws_store rfl rfl rfl rfl (by first | exact .inl (by assumption) | exact .inr (by simp)) (fun _ h _ => by first | (cases h; done) | exact List.mem_cons_of_mem _ h | exact List.mem_cons_of_mem _ (List.mem_cons_of_mem _ h) | (simp at h ⊢; simp [h])) ?_
        refine ws_late rfl ?_
        refine ws_l rfl rfl rfl rfl (rd_assign rfl) ?_
        refine ws_nil ?_
        refine qe_then ?_
        refine wc_keep [(2, _), (3, _)] rfl ?_
        refine wc_ret ?_
        refine qe_body _ (.inl rfl) (res2 rfl (RV.cell rfl) (RV.tmp rfl)) ?_
        exact ret_end fun w hp hn ho => by (try simp only [cmpP, ne_eq, Decidable.not_not] at *); simp [*]; try omega
      · intro h30
        refine ws_r rfl rfl rfl rfl (rd_pick_t rfl rfl) ?_
        refine ws_store rfl rfl rfl rfl (by first | exact .inl (by assumption) | exact .inr (by simp)) (fun _ h _ => by first | (cases h; done) | exact List.mem_cons_of_mem _ h | exact List.mem_cons_of_mem _ (List.mem_cons_of_mem _ h) | (simp at h ⊢; simp [h])) ?_
        refine ws_late rfl ?_
        refine ws_l rfl rfl rfl rfl (rd_assign rfl) ?_
        refine ws_nil ?_
        refine qe_then ?_
        refine wc_keep [(2, _), (3, _)] rfl ?_
        refine wc_ret ?_
        refine qe_body _ (.inl rfl) (res2 rfl (RV.cell rfl) (RV.tmp rfl)) ?_
        exact ret_end fun w hp hn ho => by (try simp only [cmpP, ne_eq, Decidable.not_not] at *); simp [*]; try omega
    · intro h26
      refine ws_r rfl rfl rfl rfl (rd_move rfl) ?_
      refine ws_rskip rfl rfl rfl rfl ?_
      refine ws_xskip rfl rfl rfl rfl ?_
      refine ws_rskip rfl rfl rfl rfl ?_
      refine ws_r rfl rfl rfl rfl (rd_pick_f rfl rfl) ?_
      refine ws_store rfl rfl rfl rfl (by first | exact .inl (by assumption) | exact .inr (by simp)) (fun _ h _ => by first | (cases h; done) | exact List.mem_cons_of_mem _ h | exact List.mem_cons_of_mem _ (List.mem_cons_of_mem _ h) | (simp at h ⊢; simp [h])) ?_
      refine ws_late rfl ?_
      refine ws_l rfl rfl rfl rfl (rd_assign rfl) ?_
      refine ws_nil ?_
      refine qe_then ?_
      refine wc_keep [(2, _), (3, _)] rfl ?_
      refine wc_ret ?_
      refine qe_body _ (.inl rfl) (res2 rfl (RV.cell rfl) (RV.tmp rfl)) ?_
      exact ret_end fun w hp hn ho => by (try simp only [cmpP, ne_eq, Decidable.not_not] at *); simp [*]; try omega
set_option maxRecDepth 100000 in
set_option maxHeartbeats 1000000 in
theorem chunk_ret (A : Option Addr) (n c : Nat) (w : World) : Ret Try.prog 57 [.slice A n c, I 41] w [] (fun v w' => ∃ c1 c2, v = .func (.func 69) #[] #[ptr c1, ptr c2] ∧ w.heap.size ≤ c1 ∧ w.heap.size ≤ c2 ∧ HpOK [(c1, .cells #[.slice A n c] 64 (0, 0)), (c2, .cells #[I 41] 3 (0, 0))] w' ∧ c1 ≠ c2) := by
  refine enter (n := 9) (args := [.slice A n c, I 41]) [] [] Try.func57 rfl rfl rfl (HpOK.nil w) (by simp) ?_
  refine wc_seq ?_
  refine wc_plain [(0, .x true), (1, .x true), (2, .x true)] (by kernel_rfl) ?_
  refine ws_box rfl rfl rfl rfl ?_
  intro b2 hb2
  refine ws_box rfl rfl rfl rfl ?_
  intro b3 hb3
  refine ws_l rfl rfl rfl rfl (rd_assign rfl) ?_
  refine ws_nil ?_
  refine qe_then ?_
  refine wc_seq ?_
  refine wc_seq ?_
  refine wc_plain [(0, .x true), (1, .x true)] (by kernel_rfl) ?_
  refine ws_l rfl rfl rfl rfl (rd_load rfl) ?_
  refine ws_l rfl rfl rfl rfl (rd_cmp_f rfl rfl rfl (by simp [cmpP])) ?_
  refine ws_nil ?_
  refine qe_then ?_
  refine wc_false rfl ?_
  refine wc_skip ?_
  refine qe_then ?_
  refine wc_seq ?_
  refine wc_plain [(0, .x true), (1, .x true)] (by kernel_rfl) ?_
  refine ws_l rfl rfl rfl rfl (rd_mkfunc rfl rfl) ?_
  refine ws_l rfl rfl rfl rfl (rd_assign rfl) ?_
  refine ws_nil ?_
  refine qe_then ?_
  refine wc_keep [(4, _)] rfl ?_
  refine wc_ret ?_
  refine qe_body _ (.inl rfl) (res1 rfl (RV.tmp rfl)) ?_
  exact ret_end fun w hp hn ho => ⟨b2, b3, rfl, hb2, hb3, hp.mono (by simp), by simp at hn; omega⟩
set_option maxRecDepth 100000 in
set_option maxHeartbeats 1000000 in
theorem chunk_iter (b o n c k c1 c2 : Nat) (hn0 : n = 41 * k) (hc : n ≤ c) (hk : k < 1048577) : Iter Try.prog 69 [ptr c1, ptr c2] (fun i : Nat => .slice (some ⟨b, o + 41 * i, none⟩) 41 41) (List.range k) (fun ν φ => (c1, Obj.cells #[.slice (some ⟨b, o, none⟩) n c] 64 (0, 0)) ∈ φ ∧ (c2, Obj.cells #[I 41] 3 (0, 0)) ∈ φ) := by
  intro lp J X ν φ w hY hJ hp hn hneed
  have hmc1 : HM c1 (.cells #[.slice (some ⟨b, o, none⟩) n c] 64 (0, 0)) φ := ⟨hneed.1⟩
  have hmc2 : HM c2 (.cells #[I 41] 3 (0, 0)) φ := ⟨hneed.2⟩
  refine enter (n := 31) (args := [.func (.yield lp) #[] #[], ptr c1, ptr c2]) (ν.map Prod.fst) (ν ++ φ) Try.func69 rfl rfl rfl hp hn ?_
  refine wc_seq ?_
  refine wc_plain [(0, .x true)] (by kernel_rfl) ?_
  refine ws_l rfl rfl rfl rfl (rd_assign rfl) ?_
  refine ws_nil ?_
  refine qe_then ?_
  refine wc_block ?_
  refine wc_loop (fun mz ac w1 => ∃ (j : Nat) (νj : Heap), mz = k - j ∧ (j ≤ k) ∧ (J ((List.range k).take j) νj) ∧ (∀ b ∈ νj.map Prod.fst, w.heap.size ≤ b ∨ b ∈ ν.map Prod.fst) ∧ St 31 w (ν.map Prod.fst) [(0, .func (.yield lp) #[] #[]), (1, ptr c1), (2, ptr c2), (4, I ((41 * j : Nat) : Int))] (νj ++ φ) ac w1) _ (fun ac w1 hs => ⟨0, ν, rfl, (by omega), (by simpa using hJ), (fun b hb => .inr hb), st_sub hs _ rfl⟩) ?_
  rintro _ ac1 wl1 ⟨j, νj, rfl, hj, hJj, hfj, hs1⟩
  refine wc_at hs1 ?_
  refine wc_seq ?_
  refine wc_seq ?_
  refine wc_plain [(0, .x true), (1, .x true), (2, .x true), (3, .x true)] (by kernel_rfl) ?_
  refine ws_l rfl rfl rfl rfl (rd_move rfl) ?_
  refine ws_l rfl rfl rfl rfl (rd_load rfl) ?_
  refine ws_l rfl rfl rfl rfl (rd_len rfl Try.underlying64) ?_
  refine ws_lcmp rfl rfl rfl (rfl) (rfl) (rfl) ?_ ?_
  · intro h9
    refine ws_nil ?_
    refine qe_then ?_
    refine wc_true rfl ?_
    refine wc_skip ?_
    refine qe_then ?_
    refine wc_seq ?_
    refine wc_block ?_
    refine wc_seq ?_
    refine wc_drawn mixedT _ (fun _ h => h) [(0, .r), (1, .r), (2, .r), (3, .r), (4, .r), (5, .x true), (6, .x true)] (by kernel_rfl) ?_
    refine ws_r rfl rfl rfl rfl (rd_load rfl) ?_
    refine ws_r rfl rfl rfl rfl (rd_load rfl) ?_
    refine ws_r rfl rfl rfl rfl (rd_move rfl) ?_
    refine ws_r rfl rfl rfl rfl (rd_sliceLo (i := 41 * j) _ Try.underlying64 rfl rfl Try.sizeOf5 (by omega) rfl) ?_
    refine ws_r rfl rfl rfl rfl (rd_len rfl Try.underlying64) ?_
    refine ws_late rfl ?_
    refine ws_l rfl rfl rfl rfl (rd_min rfl rfl) ?_
    rw [if_neg (show ¬ (((n - 41 * j : Nat) : Int) < 41) by omega)]
    refine ws_l rfl rfl rfl rfl (rd_assign rfl) ?_
    refine ws_nil ?_
    refine qe_then ?_
    refine wc_seq ?_
    refine wc_plain [(0, .x true), (1, .x true), (2, .x true), (3, .x true), (4, .x true), (5, .x true), (6, .x true), (7, .x true), (8, .x true), (9, .x true), (10, .x true), (11, .x true)] (by kernel_rfl) ?_
    refine ws_l rfl rfl rfl rfl (rd_move rfl) ?_
    refine ws_l rfl rfl rfl rfl (rd_load rfl) ?_
    refine ws_l rfl rfl rfl rfl (rd_move rfl) ?_
    refine ws_l rfl rfl rfl rfl (rd_move rfl) ?_
    refine ws_l rfl rfl rfl rfl (rd_move rfl) ?_
    refine ws_l rfl rfl rfl rfl (rd_arith ((41 * j + 41 : Nat) : Int) rfl rfl rfl (by rw [wrap_i64 _ (by omega) (by omega)]; omega)) ?_
    refine ws_l rfl rfl rfl rfl (rd_move rfl) ?_
    refine ws_l rfl rfl rfl rfl (rd_move rfl) ?_
    refine ws_l rfl rfl rfl rfl (rd_arith ((41 * j + 41 : Nat) : Int) rfl rfl rfl (by rw [wrap_i64 _ (by omega) (by omega)]; omega)) ?_
    refine ws_l rfl rfl rfl rfl (rd_slice3 (i := 41 * j) (j := 41 * j + 41) (o + 41 * j) 41 Try.underlying64 rfl rfl rfl rfl Try.sizeOf5 (by omega) (by omega) (by omega) (by omega)) ?_
    have hx : (List.range k)[j]? = some j := List.getElem?_range (by omega)
    refine ws_yield hY (split_at hx) hJj rfl rfl rfl rfl rfl hfj (fun _ _ h => by cases h) ?_ ?_
    · intro ν2 hJ2 hf2
      refine ws_l rfl rfl rfl rfl (rd_not rfl) ?_
      refine ws_nil ?_
      refine qe_then ?_
      refine wc_false rfl ?_
      refine wc_skip ?_
      refine qe_block ?_
      refine qe_then ?_
      refine wc_plain [(0, .x true), (1, .x true), (2, .x true), (3, .x true)] (by kernel_rfl) ?_
      refine ws_l rfl rfl rfl rfl (rd_move rfl) ?_
      refine ws_l rfl rfl rfl rfl (rd_load rfl) ?_
      refine ws_l rfl rfl rfl rfl (rd_arith ((41 * (j + 1) : Nat) : Int) rfl rfl rfl (by rw [wrap_i64 _ (by omega) (by omega)]; omega)) ?_
      refine ws_l rfl rfl rfl rfl (rd_assign rfl) ?_
      refine ws_nil ?_
      exact qe_loop fun ac2 w2 hs2 => ⟨_, by omega, j + 1, ν2, rfl, (by omega), (by rw [take_at hx]; exact hJ2), (hf2), st_sub hs2 _ rfl⟩
    · intro ν2 hJ2 hf2
      refine ws_l rfl rfl rfl rfl (rd_not rfl) ?_
      refine ws_nil ?_
      refine qe_then ?_
      refine wc_true rfl ?_
      refine wc_ret ?_
      refine qe_block_ret ?_
      refine qe_then_ret ?_
      refine qe_then_ret ?_
      refine qe_block_ret ?_
      refine qe_body _ (.inl rfl) (res0 rfl) ?_
      exact ret_end fun w hp hn ho => ⟨ν2, hp.mono (fun _ h => List.mem_append_left _ h), hn.sublist (List.Sublist.map _ (List.sublist_append_left _ _)), hf2, .inr ⟨(List.range k).take (j + 1), (List.range k).drop (j + 1), (List.take_append_drop _ _).symm, by rw [take_at hx]; exact hJ2⟩⟩
  · intro h9
    refine ws_nil ?_
    refine qe_then ?_
    refine wc_false rfl ?_
    refine wc_exit ?_
    refine qe_then_exit ?_
    refine qe_then_exit ?_
    refine qe_block_exit ?_
    refine qe_body _ (.inr rfl) (res0 rfl) ?_
    exact ret_end fun w hp hn ho => ⟨νj, hp.mono (fun _ h => List.mem_append_left _ h), hn.sublist (List.Sublist.map _ (List.sublist_append_left _ _)), hfj, .inl (by rw [List.take_of_length_le (by simp; omega)] at hJj; exact hJj)⟩

end Go.Proofs.Ytegjmmjjchpeoaa
