/- Walks: the laws' helpers: public, to, rekey. No conditions. -/
import Derived.Test.YtheioljidangkaaGreatLwa
namespace Go.Proofs.YtheioljidangkaaGreat
open Go Go.RowKit Go.Sx
set_option linter.unusedSimpArgs false
set_option linter.unusedVariables false

theorem pick4_le (a b c d : Int) (n : UInt8) : pick4 a b c d n = a ∨ pick4 a b c d n = b ∨ pick4 a b c d n = c ∨ pick4 a b c d n = d := by
  unfold pick4
  repeat' split
  all_goals simp
set_option maxRecDepth 100000 in
set_option maxHeartbeats 1000000 in
theorem public_ret (n : UInt8) (w : World) : Ret Tryz.prog 8 [u8v n] w [] (fun u _ => u = pubK (pubV n)) := by
  refine enter (n := 13) (args := [u8v n]) [] [] Tryz.func8 rfl rfl rfl (HpOK.nil w) (by simp) ?_
  refine wc_seq ?_
  refine wc_plain [(0, .x true)] (by kernel_rfl) ?_
  refine ws_alloc rfl rfl rfl ?_
  intro b2 hb2
  refine ws_nil ?_
  refine qe_then ?_
  refine wc_seq ?_
  refine wc_plain [(0, .x true), (1, .x true), (2, .x true), (3, .x true), (4, .x true), (5, .x true), (6, .x true), (7, .x true), (8, .x true), (9, .x true), (10, .x true)] (by kernel_rfl) ?_
  refine ws_l rfl rfl rfl rfl (rd_move rfl) ?_
  refine ws_l rfl rfl rfl rfl (rd_conv rfl (run_conv_int ((n.toNat : Nat) : Int) Tryz.underlying5 Tryz.underlying3 (wrap_i64 _ (by omega) (by have := n.toNat_lt; omega)))) ?_
  refine ws_l rfl rfl rfl rfl (rd_rem ((n.toNat % 3 : Nat) : Int) rfl rfl (by omega) (tmodN _ 3)) ?_
  refine ws_l rfl rfl rfl rfl (rd_arith (((1 + n.toNat % 3 : Nat) : Nat) : Int) rfl rfl rfl (by rw [wrap_i64 _ (by omega) (by omega)]; omega)) ?_
  refine ws_l rfl rfl rfl rfl (rd_move rfl) ?_
  refine ws_l rfl rfl rfl rfl (rd_rem (((n % 8 : UInt8).toNat : Nat) : Int) rfl rfl (by omega) (u8_rem n 8 (by omega))) ?_
  refine ws_l rfl rfl rfl rfl (rd_move rfl) ?_
  refine ws_l rfl rfl rfl rfl (rd_rem (((n % 8 : UInt8).toNat : Nat) : Int) rfl rfl (by omega) (u8_rem n 8 (by omega))) ?_
  refine ws_l rfl rfl rfl rfl (rd_build rfl) ?_
  refine ws_l rfl rfl rfl rfl (rd_build rfl) ?_
  refine ws_store rfl rfl rfl rfl (by first | exact .inl (by assumption) | exact .inr (by simp)) (fun _ h _ => by first | (cases h; done) | exact List.mem_cons_of_mem _ h | exact List.mem_cons_of_mem _ (List.mem_cons_of_mem _ h) | (simp at h ⊢; simp [h])) ?_
  refine ws_nil ?_
  refine qe_then ?_
  refine wc_keep [(2, _)] rfl ?_
  refine wc_ret ?_
  refine qe_body _ (.inl rfl) (res1 rfl (RV.cell rfl)) ?_
  exact ret_end fun w hp hn ho => rfl
set_option maxRecDepth 100000 in
set_option maxHeartbeats 1000000 in
theorem to_ret (p : Pub) (w : World) : Ret Tryz.prog 17 [pubK p] w [] (fun u _ => u = pubK p) := by
  refine enter (n := 8) (args := [pubK p]) [] [] Tryz.func17 rfl rfl rfl (HpOK.nil w) (by simp) ?_
  refine wc_seq ?_
  refine wc_plain [(0, .x true), (1, .x true)] (by kernel_rfl) ?_
  refine ws_box rfl rfl rfl rfl ?_
  intro b1 hb1
  refine ws_alloc rfl rfl rfl ?_
  intro b2 hb2
  refine ws_nil ?_
  refine qe_then ?_
  refine wc_seq ?_
  refine wc_plain [(0, .x true), (1, .x true), (2, .x true), (3, .x true), (4, .x true), (5, .x true)] (by kernel_rfl) ?_
  refine ws_l rfl rfl rfl rfl (rd_fieldAddr rfl) ?_
  refine ws_l rfl rfl rfl rfl (rd_load rfl) ?_
  refine ws_l rfl rfl rfl rfl (rd_fieldAddr rfl) ?_
  refine ws_l rfl rfl rfl rfl (rd_load rfl) ?_
  refine ws_l rfl rfl rfl rfl (rd_build rfl) ?_
  refine ws_store rfl rfl rfl rfl (by first | exact .inl (by assumption) | exact .inr (by simp)) (fun _ h _ => by first | (cases h; done) | exact List.mem_cons_of_mem _ h | exact List.mem_cons_of_mem _ (List.mem_cons_of_mem _ h) | (simp at h ⊢; simp [h])) ?_
  refine ws_nil ?_
  refine qe_then ?_
  refine wc_keep [(2, _)] rfl ?_
  refine wc_ret ?_
  refine qe_body _ (.inl rfl) (res1 rfl (RV.cell rfl)) ?_
  exact ret_end fun w hp hn ho => rfl
set_option maxRecDepth 100000 in
set_option maxHeartbeats 8000000 in
theorem rekey_ret (m : MV) (w : World) : Ret Tryz.prog 15 [mvK m] w [] (fun u _ => u = .tuple #[rkK (rekR m), I (rekK m), I (rekN m)]) := by
  refine enter (n := 129) (args := [mvK m]) [] [] Tryz.func15 rfl rfl rfl (HpOK.nil w) (by simp) ?_
  refine wc_seq ?_
  refine wc_plain [(0, .x true), (1, .x true), (2, .x true), (3, .x true)] (by kernel_rfl) ?_
  refine ws_box rfl rfl rfl rfl ?_
  intro b1 hb1
  refine ws_alloc rfl rfl rfl ?_
  intro b2 hb2
  refine ws_l rfl rfl rfl rfl (rd_assign rfl) ?_
  refine ws_l rfl rfl rfl rfl (rd_assign rfl) ?_
  refine ws_nil ?_
  refine qe_then ?_
  refine wc_seq ?_
  refine wc_drawnO mixedT _ (fun _ h => h) (.r 0 (.r 1 (.r 2 (.r 3 (.r 4 (.r 5 (.r 8 (.r 9 (.r 10 (.r 11 (.r 12 (.r 13 (.r 15 (.r 16 (.b 6 19 (.b 7 19 (.b 14 19 (.b 17 19 (.seq [(18, .r), (19, .x false), (20, .x true)]) (.seq [(17, .x false), (18, .x true), (20, .x true)])) (.seq [(14, .x false), (17, .x false), (18, .x true), (20, .x true)])) (.seq [(7, .x false), (14, .x false), (17, .x false), (18, .x true), (20, .x true)])) (.seq [(6, .x false), (7, .x false), (14, .x false), (17, .x false), (18, .x true), (20, .x true)])))))))))))))))) (by kernel_rfl) ?_
  refine od_join (A := Nat) (fun b5 => w.heap.size ≤ b5) (fun b5 => [(1, ptr b1), (2, ptr b2), (5, ptr b5)]) (fun b5 => [(b5, .cells (rkC ⟨id0.set 31 (m.id % 16), ofF (pubV m.first), ((m.number.toNat % 3 : Nat) : Int), pubV m.pub, 0, pubV m.new⟩) 53 (0, 0)), (b2, .cells (rkC rk0) 53 (0, 0)), (b1, .cells (mvC m) 51 (0, 0))]) ?_ ?_
  · rintro b5 hb5
    refine qe_then ?_
    refine wc_seq ?_
    refine wc_drawn mixedT _ (fun _ h => h) [(0, .r), (1, .r), (2, .r), (3, .r), (4, .r), (5, .r), (6, .r), (7, .x true), (8, .x true), (9, .x true)] (by kernel_rfl) ?_
    refine ws_r rfl rfl rfl rfl (rd_fieldAddr rfl) ?_
    refine ws_r rfl rfl rfl rfl (rd_load rfl) ?_
    refine ws_r rfl rfl rfl rfl (rd_conv rfl (run_conv_int ((m.leaf.toNat : Nat) : Int) Tryz.underlying5 Tryz.underlying3 (wrap_i64 _ (by omega) (by have := m.leaf.toNat_lt; omega)))) ?_
    refine ws_r rfl rfl rfl rfl (rd_fieldAddr rfl) ?_
    refine ws_r rfl rfl rfl rfl (rd_fieldAddr rfl) ?_
    refine ws_r rfl rfl rfl rfl (rd_load rfl) ?_
    refine ws_r rfl rfl rfl rfl (rd_shl ((2 ^ (1 + m.pub.toNat % 3) : Nat) : Int) rfl rfl (by show (0 : Int) ≤ ((1 + m.pub.toNat % 3 : Nat) : Int); omega) (shl_n (n := (1 + m.pub.toNat % 3)) (by omega))) ?_
    refine ws_late rfl ?_
    refine ws_l rfl rfl rfl rfl (rd_rem ((m.leaf.toNat % 2 ^ (1 + m.pub.toNat % 3) : Nat) : Int) rfl rfl (by have := Nat.pow_pos (n := (1 + m.pub.toNat % 3)) (show 0 < 2 by omega); omega) (tmodN _ _)) ?_
    refine ws_l rfl rfl rfl rfl (rd_fieldAddr rfl) ?_
    refine ws_store rfl rfl rfl rfl (by first | exact .inl (by assumption) | exact .inr (by simp)) (fun _ h _ => by first | (cases h; done) | exact List.mem_cons_of_mem _ h | exact List.mem_cons_of_mem _ (List.mem_cons_of_mem _ h) | (simp at h ⊢; simp [h])) ?_
    refine ws_nil ?_
    refine qe_then ?_
    refine wc_keep [(1, _), (2, _), (5, _)] rfl ?_
    refine wc_seq ?_
    refine wc_seq ?_
    refine wc_plain [(0, .x true), (1, .x true), (2, .x true)] (by kernel_rfl) ?_
    refine ws_l rfl rfl rfl rfl (rd_fieldAddr rfl) ?_
    refine ws_l rfl rfl rfl rfl (rd_load rfl) ?_
    refine ws_lcmp rfl rfl rfl (rfl) (rfl) (rfl) ?_ ?_
    · intro h38
      have hn0 : m.number.toNat % 3 = 0 := by simp only [cmpP] at h38; omega
      refine ws_nil ?_
      refine qe_then ?_
      refine wc_true rfl ?_
      refine wc_seq ?_
      refine wc_plain [(0, .x true), (1, .x true), (2, .x true), (3, .x true), (4, .x true)] (by kernel_rfl) ?_
      refine ws_l rfl rfl rfl rfl (rd_fieldAddr rfl) ?_
      refine ws_l rfl rfl rfl rfl (rd_load rfl) ?_
      refine ws_callp rfl rfl rfl rfl rfl (En.go) (fun w hp hn ho => public_ret m.first w) ?_
      refine ws_l rfl rfl rfl rfl (rd_fieldAddr rfl) ?_
      refine ws_store rfl rfl rfl rfl (by first | exact .inl (by assumption) | exact .inr (by simp)) (fun _ h _ => by first | (cases h; done) | exact List.mem_cons_of_mem _ h | exact List.mem_cons_of_mem _ (List.mem_cons_of_mem _ h) | (simp at h ⊢; simp [h])) ?_
      refine ws_nil ?_
      refine qe_then ?_
      refine wc_keep [(1, _), (2, _), (5, _)] rfl ?_
      refine wc_drawn mixedT _ (fun _ h => h) [(0, .r), (1, .r), (2, .r), (3, .r), (4, .r), (5, .r), (6, .r), (7, .x true), (8, .x true), (9, .x true)] (by kernel_rfl) ?_
      refine ws_r rfl rfl rfl rfl (rd_fieldAddr rfl) ?_
      refine ws_r rfl rfl rfl rfl (rd_load rfl) ?_
      refine ws_r rfl rfl rfl rfl (rd_conv rfl (run_conv_int ((m.leaf.toNat : Nat) : Int) Tryz.underlying5 Tryz.underlying3 (wrap_i64 _ (by omega) (by have := m.leaf.toNat_lt; omega)))) ?_
      refine ws_r rfl rfl rfl rfl (rd_fieldAddr rfl) ?_
      refine ws_r rfl rfl rfl rfl (rd_fieldAddr rfl) ?_
      refine ws_r rfl rfl rfl rfl (rd_load rfl) ?_
      refine ws_r rfl rfl rfl rfl (rd_shl ((2 ^ (1 + m.first.toNat % 3) : Nat) : Int) rfl rfl (by show (0 : Int) ≤ ((1 + m.first.toNat % 3 : Nat) : Int); omega) (shl_n (n := (1 + m.first.toNat % 3)) (by omega))) ?_
      refine ws_late rfl ?_
      refine ws_l rfl rfl rfl rfl (rd_rem ((m.leaf.toNat % 2 ^ (1 + m.first.toNat % 3) : Nat) : Int) rfl rfl (by have := Nat.pow_pos (n := (1 + m.first.toNat % 3)) (show 0 < 2 by omega); omega) (tmodN _ _)) ?_
      refine ws_l rfl rfl rfl rfl (rd_fieldAddr rfl) ?_
      refine ws_store rfl rfl rfl rfl (by first | exact .inl (by assumption) | exact .inr (by simp)) (fun _ h _ => by first | (cases h; done) | exact List.mem_cons_of_mem _ h | exact List.mem_cons_of_mem _ (List.mem_cons_of_mem _ h) | (simp at h ⊢; simp [h])) ?_
      refine ws_nil ?_
      refine qe_then ?_
      refine wc_keep [(1, _), (2, _), (5, _)] rfl ?_
      refine wc_seq ?_
      refine wc_drawn mixedT _ (fun _ h => h) [(0, .r), (1, .r), (2, .r), (3, .r), (4, .x true)] (by kernel_rfl) ?_
      refine ws_r rfl rfl rfl rfl (rd_fieldAddr rfl) ?_
      refine ws_r rfl rfl rfl rfl (rd_load rfl) ?_
      refine ws_r rfl rfl rfl rfl (rd_arith (((m.number.toNat % 3 : Nat) : Int) + 1) rfl rfl rfl (by show IntKind.i64.wrap (((m.number.toNat % 3 : Nat) : Int) + 1) = _; exact wrap_i64 _ (by omega) (by omega))) ?_
      refine ws_r rfl rfl rfl rfl (rd_assign rfl) ?_
      refine ws_late rfl ?_
      refine ws_l rfl rfl rfl rfl (rd_assign rfl) ?_
      refine ws_nil ?_
      refine qe_then ?_
      refine wc_seq ?_
      refine wc_seq ?_
      refine wc_plain [(0, .x true), (1, .x true)] (by kernel_rfl) ?_
      refine ws_l rfl rfl rfl rfl (rd_fieldAddr rfl) ?_
      refine ws_l rfl rfl rfl rfl (rd_load rfl) ?_
      refine ws_nil ?_
      refine qe_then ?_
      refine wc_block ?_
      refine wc_seq ?_
      refine wc_plain [(0, .x true), (1, .x true)] (by kernel_rfl) ?_
      refine ws_lcmp rfl rfl rfl (rfl) (rfl) (rfl) ?_ ?_
      · intro h58
        have hs : m.spoil = 0 := u8_is (k := 0) (by omega) (by simpa [cmpP] using h58)
        refine ws_l rfl rfl rfl rfl (rd_assign rfl) ?_
        refine ws_nil ?_
        refine qe_then ?_
        refine wc_keep [(1, _), (2, _), (5, _), (6, _), (7, _), (56, _), (57, _)] rfl ?_
        refine wc_true rfl ?_
        refine wc_plain [(0, .x true), (1, .x true), (2, .x true), (3, .x true), (4, .x true)] (by kernel_rfl) ?_
        refine ws_l rfl rfl rfl rfl (rd_fieldAddr rfl) ?_
        refine ws_l rfl rfl rfl rfl (rd_load rfl) ?_
        refine ws_l rfl rfl rfl rfl (rd_conv rfl (run_conv_int ((m.leaf.toNat : Nat) : Int) Tryz.underlying5 Tryz.underlying3 (wrap_i64 _ (by omega) (by have := m.leaf.toNat_lt; omega)))) ?_
        refine ws_l rfl rfl rfl rfl (rd_rem ((m.leaf.toNat % 7 : Nat) : Int) rfl rfl (by omega) (tmodN _ 7)) ?_
        refine ws_l rfl rfl rfl rfl (rd_assign rfl) ?_
        refine ws_nil ?_
        refine qe_block ?_
        refine qe_then ?_
        refine wc_keep [(1, _), (2, _), (5, _), (6, _), (7, _)] rfl ?_
        refine wc_seq ?_
        refine wc_seq ?_
        refine wc_plain [(0, .x true), (1, .x true), (2, .x true)] (by kernel_rfl) ?_
        refine ws_l rfl rfl rfl rfl (rd_fieldAddr rfl) ?_
        refine ws_l rfl rfl rfl rfl (rd_load rfl) ?_
        refine ws_l rfl rfl rfl rfl (rd_cmp_f rfl rfl rfl (by simp only [cmpP]; rw [hs]; decide)) ?_
        refine ws_nil ?_
        refine qe_then ?_
        refine wc_false rfl ?_
        refine wc_skip ?_
        refine qe_then ?_
        refine wc_seq ?_
        refine wc_plain [(0, .x true), (1, .x true), (2, .x true), (3, .x true), (4, .x true), (5, .x true)] (by kernel_rfl) ?_
        refine ws_l rfl rfl rfl rfl (rd_load rfl) ?_
        refine ws_l rfl rfl rfl rfl (rd_move rfl) ?_
        refine ws_l rfl rfl rfl rfl (rd_move rfl) ?_
        refine ws_store rfl rfl rfl rfl (by first | exact .inl (by assumption) | exact .inr (by simp)) (fun _ h _ => by first | (cases h; done) | exact List.mem_cons_of_mem _ h | exact List.mem_cons_of_mem _ (List.mem_cons_of_mem _ h) | (simp at h ⊢; simp [h])) ?_
        refine ws_l rfl rfl rfl rfl (rd_assign rfl) ?_
        refine ws_l rfl rfl rfl rfl (rd_assign rfl) ?_
        refine ws_nil ?_
        refine qe_then ?_
        refine wc_keep [(2, _), (3, _), (4, _)] rfl ?_
        refine wc_ret ?_
        refine qe_body _ (.inl rfl) (res3 rfl (RV.cell rfl) (RV.tmp rfl) (RV.tmp rfl)) ?_
        exact ret_end fun w hp hn ho => by simp [rekR, rekK, rekN, rek1, rek0, idM, hs, hn0]
      · intro h58
        have hs0 : m.spoil ≠ 0 := u8_isnt (k := 0) (by omega) (by simpa [cmpP] using h58)
        refine ws_l rfl rfl rfl rfl (rd_assign rfl) ?_
        refine ws_nil ?_
        refine qe_then ?_
        refine wc_keep [(1, _), (2, _), (5, _), (6, _), (7, _), (56, _), (57, _)] rfl ?_
        refine wc_false rfl ?_
        refine wc_seq ?_
        refine wc_plain [(0, .x true), (1, .x true)] (by kernel_rfl) ?_
        refine ws_lcmp rfl rfl rfl (rfl) (rfl) (rfl) ?_ ?_
        · intro h64
          have hs : m.spoil = 1 := u8_is (k := 1) (by omega) (by simpa [cmpP] using h64)
          refine ws_l rfl rfl rfl rfl (rd_assign rfl) ?_
          refine ws_nil ?_
          refine qe_then ?_
          refine wc_true rfl ?_
          refine wc_plain [(0, .x true), (1, .x true), (2, .x true), (3, .x true), (4, .x true), (5, .x true), (6, .x true), (7, .x true)] (by kernel_rfl) ?_
          refine ws_buildSlice rfl rfl rfl rfl ?_
          intro b65 hb65
          refine ws_l rfl rfl rfl rfl (rd_fieldAddr rfl) ?_
          refine ws_l rfl rfl rfl rfl (rd_load rfl) ?_
          refine ws_l rfl rfl rfl rfl (rd_rem (((m.leaf % 4 : UInt8).toNat : Nat) : Int) rfl rfl (by omega) (u8_rem m.leaf 4 (by omega))) ?_
          have at4 := pick_at (-1) 1000 999 1099511627776 m.leaf
          have hl4 : (m.leaf % 4).toNat < 4 := by rw [UInt8.toNat_mod]; exact Nat.mod_lt _ (by decide)
          refine ws_l rfl rfl rfl rfl (rd_ix (j := (m.leaf % 4).toNat) rfl rfl Tryz.underlying88 Tryz.sizeOf3 hl4) ?_
          refine ws_l rfl rfl rfl rfl (rd_load rfl) ?_
          refine ws_l rfl rfl rfl rfl (rd_fieldAddr rfl) ?_
          refine ws_store rfl rfl rfl rfl (by first | exact .inl (by assumption) | exact .inr (by simp)) (fun _ h _ => by first | (cases h; done) | exact List.mem_cons_of_mem _ h | exact List.mem_cons_of_mem _ (List.mem_cons_of_mem _ h) | (simp at h ⊢; simp [h])) ?_
          refine ws_nil ?_
          refine qe_block ?_
          refine qe_then ?_
          refine wc_keep [(1, _), (2, _), (5, _), (6, _), (7, _)] rfl ?_
          refine wc_seq ?_
          refine wc_seq ?_
          refine wc_plain [(0, .x true), (1, .x true), (2, .x true)] (by kernel_rfl) ?_
          refine ws_l rfl rfl rfl rfl (rd_fieldAddr rfl) ?_
          refine ws_l rfl rfl rfl rfl (rd_load rfl) ?_
          refine ws_l rfl rfl rfl rfl (rd_cmp_t rfl rfl rfl (by simp only [cmpP]; rw [hs]; decide)) ?_
          refine ws_nil ?_
          refine qe_then ?_
          refine wc_true rfl ?_
          refine wc_plain [(0, .x true), (1, .x true), (2, .x true), (3, .x true)] (by kernel_rfl) ?_
          refine ws_l rfl rfl rfl rfl (rd_fieldAddr rfl) ?_
          refine ws_l rfl rfl rfl rfl (rd_load rfl) ?_
          refine ws_l rfl rfl rfl rfl (rd_arith (pick4 (-1) 1000 999 1099511627776 m.leaf + 1) rfl rfl rfl (by have := pick4_le (-1) 1000 999 1099511627776 m.leaf; show IntKind.i64.wrap (pick4 (-1) 1000 999 1099511627776 m.leaf + 1) = _; exact wrap_i64 _ (by omega) (by omega))) ?_
          refine ws_l rfl rfl rfl rfl (rd_assign rfl) ?_
          refine ws_nil ?_
          refine qe_then ?_
          refine wc_keep [(2, _), (5, _), (6, _), (7, _)] rfl ?_
          refine wc_seq ?_
          refine wc_plain [(0, .x true), (1, .x true), (2, .x true), (3, .x true), (4, .x true), (5, .x true)] (by kernel_rfl) ?_
          refine ws_l rfl rfl rfl rfl (rd_load rfl) ?_
          refine ws_l rfl rfl rfl rfl (rd_move rfl) ?_
          refine ws_l rfl rfl rfl rfl (rd_move rfl) ?_
          refine ws_store rfl rfl rfl rfl (by first | exact .inl (by assumption) | exact .inr (by simp)) (fun _ h _ => by first | (cases h; done) | exact List.mem_cons_of_mem _ h | exact List.mem_cons_of_mem _ (List.mem_cons_of_mem _ h) | (simp at h ⊢; simp [h])) ?_
          refine ws_l rfl rfl rfl rfl (rd_assign rfl) ?_
          refine ws_l rfl rfl rfl rfl (rd_assign rfl) ?_
          refine ws_nil ?_
          refine qe_then ?_
          refine wc_keep [(2, _), (3, _), (4, _)] rfl ?_
          refine wc_ret ?_
          refine qe_body _ (.inl rfl) (res3 rfl (RV.cell rfl) (RV.tmp rfl) (RV.tmp rfl)) ?_
          exact ret_end fun w hp hn ho => by simp [rekR, rekK, rekN, rek1, rek0, idM, hs, hn0]
        · intro h64
          have hs1 : m.spoil ≠ 1 := u8_isnt (k := 1) (by omega) (by simpa [cmpP] using h64)
          refine ws_l rfl rfl rfl rfl (rd_assign rfl) ?_
          refine ws_nil ?_
          refine qe_then ?_
          refine wc_false rfl ?_
          refine wc_seq ?_
          refine wc_plain [(0, .x true), (1, .x true)] (by kernel_rfl) ?_
          refine ws_lcmp rfl rfl rfl (rfl) (rfl) (rfl) ?_ ?_
          · intro h73
            have hs : m.spoil = 2 := u8_is (k := 2) (by omega) (by simpa [cmpP] using h73)
            refine ws_l rfl rfl rfl rfl (rd_assign rfl) ?_
            refine ws_nil ?_
            refine qe_then ?_
            refine wc_true rfl ?_
            refine wc_plain [(0, .x true), (1, .x true), (2, .x true), (3, .x true), (4, .x true)] (by kernel_rfl) ?_
            refine ws_l rfl rfl rfl rfl (rd_fieldAddr rfl) ?_
            refine ws_l rfl rfl rfl rfl (rd_load rfl) ?_
            refine ws_l rfl rfl rfl rfl (rd_conv rfl (run_conv_int ((m.leaf.toNat : Nat) : Int) Tryz.underlying5 Tryz.underlying3 (wrap_i64 _ (by omega) (by have := m.leaf.toNat_lt; omega)))) ?_
            refine ws_l rfl rfl rfl rfl (rd_rem ((m.leaf.toNat % 5 : Nat) : Int) rfl rfl (by omega) (tmodN _ 5)) ?_
            refine ws_l rfl rfl rfl rfl (rd_assign rfl) ?_
            refine ws_nil ?_
            refine qe_block ?_
            refine qe_then ?_
            refine wc_keep [(1, _), (2, _), (5, _), (6, _), (7, _)] rfl ?_
            refine wc_seq ?_
            refine wc_seq ?_
            refine wc_plain [(0, .x true), (1, .x true), (2, .x true)] (by kernel_rfl) ?_
            refine ws_l rfl rfl rfl rfl (rd_fieldAddr rfl) ?_
            refine ws_l rfl rfl rfl rfl (rd_load rfl) ?_
            refine ws_l rfl rfl rfl rfl (rd_cmp_f rfl rfl rfl (by simp only [cmpP]; rw [hs]; decide)) ?_
            refine ws_nil ?_
            refine qe_then ?_
            refine wc_false rfl ?_
            refine wc_skip ?_
            refine qe_then ?_
            refine wc_seq ?_
            refine wc_plain [(0, .x true), (1, .x true), (2, .x true), (3, .x true), (4, .x true), (5, .x true)] (by kernel_rfl) ?_
            refine ws_l rfl rfl rfl rfl (rd_load rfl) ?_
            refine ws_l rfl rfl rfl rfl (rd_move rfl) ?_
            refine ws_l rfl rfl rfl rfl (rd_move rfl) ?_
            refine ws_store rfl rfl rfl rfl (by first | exact .inl (by assumption) | exact .inr (by simp)) (fun _ h _ => by first | (cases h; done) | exact List.mem_cons_of_mem _ h | exact List.mem_cons_of_mem _ (List.mem_cons_of_mem _ h) | (simp at h ⊢; simp [h])) ?_
            refine ws_l rfl rfl rfl rfl (rd_assign rfl) ?_
            refine ws_l rfl rfl rfl rfl (rd_assign rfl) ?_
            refine ws_nil ?_
            refine qe_then ?_
            refine wc_keep [(2, _), (3, _), (4, _)] rfl ?_
            refine wc_ret ?_
            refine qe_body _ (.inl rfl) (res3 rfl (RV.cell rfl) (RV.tmp rfl) (RV.tmp rfl)) ?_
            exact ret_end fun w hp hn ho => by simp [rekR, rekK, rekN, rek1, rek0, idM, hs, hn0]
          · intro h73
            have hs2 : m.spoil ≠ 2 := u8_isnt (k := 2) (by omega) (by simpa [cmpP] using h73)
            refine ws_l rfl rfl rfl rfl (rd_assign rfl) ?_
            refine ws_nil ?_
            refine qe_then ?_
            refine wc_false rfl ?_
            refine wc_seq ?_
            refine wc_plain [(0, .x true), (1, .x true)] (by kernel_rfl) ?_
            refine ws_lcmp rfl rfl rfl (rfl) (rfl) (rfl) ?_ ?_
            · intro h79
              have hs : m.spoil = 3 := u8_is (k := 3) (by omega) (by simpa [cmpP] using h79)
              refine ws_l rfl rfl rfl rfl (rd_assign rfl) ?_
              refine ws_nil ?_
              refine qe_then ?_
              refine wc_keep [(1, _), (2, _), (5, _), (6, _), (7, _), (56, _), (78, _)] rfl ?_
              refine wc_true rfl ?_
              refine wc_plain [(0, .x true), (1, .x true), (2, .x true), (3, .x true), (4, .x true), (5, .x true), (6, .x true), (7, .x true), (8, .x true)] (by kernel_rfl) ?_
              refine ws_buildSlice rfl rfl rfl rfl ?_
              intro b80 hb80
              refine ws_l rfl rfl rfl rfl (rd_fieldAddr rfl) ?_
              refine ws_l rfl rfl rfl rfl (rd_load rfl) ?_
              refine ws_l rfl rfl rfl rfl (rd_rem (((m.leaf % 4 : UInt8).toNat : Nat) : Int) rfl rfl (by omega) (u8_rem m.leaf 4 (by omega))) ?_
              have at4 := pick_at 0 9 (-1) 8 m.leaf
              have hl4 : (m.leaf % 4).toNat < 4 := by rw [UInt8.toNat_mod]; exact Nat.mod_lt _ (by decide)
              refine ws_l rfl rfl rfl rfl (rd_ix (j := (m.leaf % 4).toNat) rfl rfl Tryz.underlying88 Tryz.sizeOf3 hl4) ?_
              refine ws_l rfl rfl rfl rfl (rd_load rfl) ?_
              refine ws_l rfl rfl rfl rfl (rd_fieldAddr rfl) ?_
              refine ws_l rfl rfl rfl rfl (rd_fieldAddr rfl) ?_
              refine ws_store rfl rfl rfl rfl (by first | exact .inl (by assumption) | exact .inr (by simp)) (fun _ h _ => by first | (cases h; done) | exact List.mem_cons_of_mem _ h | exact List.mem_cons_of_mem _ (List.mem_cons_of_mem _ h) | (simp at h ⊢; simp [h])) ?_
              refine ws_nil ?_
              refine qe_block ?_
              refine qe_then ?_
              refine wc_keep [(1, _), (2, _), (5, _), (6, _), (7, _)] rfl ?_
              refine wc_seq ?_
              refine wc_seq ?_
              refine wc_plain [(0, .x true), (1, .x true), (2, .x true)] (by kernel_rfl) ?_
              refine ws_l rfl rfl rfl rfl (rd_fieldAddr rfl) ?_
              refine ws_l rfl rfl rfl rfl (rd_load rfl) ?_
              refine ws_l rfl rfl rfl rfl (rd_cmp_f rfl rfl rfl (by simp only [cmpP]; rw [hs]; decide)) ?_
              refine ws_nil ?_
              refine qe_then ?_
              refine wc_false rfl ?_
              refine wc_skip ?_
              refine qe_then ?_
              refine wc_seq ?_
              refine wc_plain [(0, .x true), (1, .x true), (2, .x true), (3, .x true), (4, .x true), (5, .x true)] (by kernel_rfl) ?_
              refine ws_l rfl rfl rfl rfl (rd_load rfl) ?_
              refine ws_l rfl rfl rfl rfl (rd_move rfl) ?_
              refine ws_l rfl rfl rfl rfl (rd_move rfl) ?_
              refine ws_store rfl rfl rfl rfl (by first | exact .inl (by assumption) | exact .inr (by simp)) (fun _ h _ => by first | (cases h; done) | exact List.mem_cons_of_mem _ h | exact List.mem_cons_of_mem _ (List.mem_cons_of_mem _ h) | (simp at h ⊢; simp [h])) ?_
              refine ws_l rfl rfl rfl rfl (rd_assign rfl) ?_
              refine ws_l rfl rfl rfl rfl (rd_assign rfl) ?_
              refine ws_nil ?_
              refine qe_then ?_
              refine wc_keep [(2, _), (3, _), (4, _)] rfl ?_
              refine wc_ret ?_
              refine qe_body _ (.inl rfl) (res3 rfl (RV.cell rfl) (RV.tmp rfl) (RV.tmp rfl)) ?_
              exact ret_end fun w hp hn ho => by simp [rekR, rekK, rekN, rek1, rek0, idM, hs, hn0]
            · intro h79
              have hs3 : m.spoil ≠ 3 := u8_isnt (k := 3) (by omega) (by simpa [cmpP] using h79)
              refine ws_l rfl rfl rfl rfl (rd_assign rfl) ?_
              refine ws_nil ?_
              refine qe_then ?_
              refine wc_keep [(1, _), (2, _), (5, _), (6, _), (7, _), (56, _), (78, _)] rfl ?_
              refine wc_false rfl ?_
              refine wc_seq ?_
              refine wc_plain [(0, .x true), (1, .x true)] (by kernel_rfl) ?_
              refine ws_lcmp rfl rfl rfl (rfl) (rfl) (rfl) ?_ ?_
              · intro h89
                have hs : m.spoil = 4 := u8_is (k := 4) (by omega) (by simpa [cmpP] using h89)
                refine ws_l rfl rfl rfl rfl (rd_assign rfl) ?_
                refine ws_nil ?_
                refine qe_then ?_
                refine wc_true rfl ?_
                refine wc_plain [(0, .x true), (1, .x true), (2, .x true), (3, .x true), (4, .x true), (5, .x true), (6, .x true), (7, .x true), (8, .x true)] (by kernel_rfl) ?_
                refine ws_buildSlice rfl rfl rfl rfl ?_
                intro b90 hb90
                refine ws_l rfl rfl rfl rfl (rd_fieldAddr rfl) ?_
                refine ws_l rfl rfl rfl rfl (rd_load rfl) ?_
                refine ws_l rfl rfl rfl rfl (rd_rem (((m.leaf % 4 : UInt8).toNat : Nat) : Int) rfl rfl (by omega) (u8_rem m.leaf 4 (by omega))) ?_
                have at4 := pick_at 0 9 (-1) 8 m.leaf
                have hl4 : (m.leaf % 4).toNat < 4 := by rw [UInt8.toNat_mod]; exact Nat.mod_lt _ (by decide)
                refine ws_l rfl rfl rfl rfl (rd_ix (j := (m.leaf % 4).toNat) rfl rfl Tryz.underlying88 Tryz.sizeOf3 hl4) ?_
                refine ws_l rfl rfl rfl rfl (rd_load rfl) ?_
                refine ws_l rfl rfl rfl rfl (rd_fieldAddr rfl) ?_
                refine ws_l rfl rfl rfl rfl (rd_fieldAddr rfl) ?_
                refine ws_store rfl rfl rfl rfl (by first | exact .inl (by assumption) | exact .inr (by simp)) (fun _ h _ => by first | (cases h; done) | exact List.mem_cons_of_mem _ h | exact List.mem_cons_of_mem _ (List.mem_cons_of_mem _ h) | (simp at h ⊢; simp [h])) ?_
                refine ws_nil ?_
                refine qe_block ?_
                refine qe_then ?_
                refine wc_keep [(1, _), (2, _), (5, _), (6, _), (7, _)] rfl ?_
                refine wc_seq ?_
                refine wc_seq ?_
                refine wc_plain [(0, .x true), (1, .x true), (2, .x true)] (by kernel_rfl) ?_
                refine ws_l rfl rfl rfl rfl (rd_fieldAddr rfl) ?_
                refine ws_l rfl rfl rfl rfl (rd_load rfl) ?_
                refine ws_l rfl rfl rfl rfl (rd_cmp_f rfl rfl rfl (by simp only [cmpP]; rw [hs]; decide)) ?_
                refine ws_nil ?_
                refine qe_then ?_
                refine wc_false rfl ?_
                refine wc_skip ?_
                refine qe_then ?_
                refine wc_seq ?_
                refine wc_plain [(0, .x true), (1, .x true), (2, .x true), (3, .x true), (4, .x true), (5, .x true)] (by kernel_rfl) ?_
                refine ws_l rfl rfl rfl rfl (rd_load rfl) ?_
                refine ws_l rfl rfl rfl rfl (rd_move rfl) ?_
                refine ws_l rfl rfl rfl rfl (rd_move rfl) ?_
                refine ws_store rfl rfl rfl rfl (by first | exact .inl (by assumption) | exact .inr (by simp)) (fun _ h _ => by first | (cases h; done) | exact List.mem_cons_of_mem _ h | exact List.mem_cons_of_mem _ (List.mem_cons_of_mem _ h) | (simp at h ⊢; simp [h])) ?_
                refine ws_l rfl rfl rfl rfl (rd_assign rfl) ?_
                refine ws_l rfl rfl rfl rfl (rd_assign rfl) ?_
                refine ws_nil ?_
                refine qe_then ?_
                refine wc_keep [(2, _), (3, _), (4, _)] rfl ?_
                refine wc_ret ?_
                refine qe_body _ (.inl rfl) (res3 rfl (RV.cell rfl) (RV.tmp rfl) (RV.tmp rfl)) ?_
                exact ret_end fun w hp hn ho => by simp [rekR, rekK, rekN, rek1, rek0, idM, hs, hn0]
              · intro h89
                have hs4 : m.spoil ≠ 4 := u8_isnt (k := 4) (by omega) (by simpa [cmpP] using h89)
                refine ws_l rfl rfl rfl rfl (rd_assign rfl) ?_
                refine ws_nil ?_
                refine qe_then ?_
                refine wc_false rfl ?_
                refine wc_seq ?_
                refine wc_plain [(0, .x true), (1, .x true)] (by kernel_rfl) ?_
                refine ws_lcmp rfl rfl rfl (rfl) (rfl) (rfl) ?_ ?_
                · intro h99
                  have hs : m.spoil = 5 := u8_is (k := 5) (by omega) (by simpa [cmpP] using h99)
                  refine ws_l rfl rfl rfl rfl (rd_assign rfl) ?_
                  refine ws_nil ?_
                  refine qe_then ?_
                  refine wc_true rfl ?_
                  refine wc_plain [(0, .x true), (1, .x true), (2, .x true), (3, .x true)] (by kernel_rfl) ?_
                  refine ws_l rfl rfl rfl rfl (rd_fieldAddr rfl) ?_
                  refine ws_l rfl rfl rfl rfl (rd_load rfl) ?_
                  refine ws_l rfl rfl rfl rfl (rd_fieldAddr rfl) ?_
                  refine ws_store rfl rfl rfl rfl (by first | exact .inl (by assumption) | exact .inr (by simp)) (fun _ h _ => by first | (cases h; done) | exact List.mem_cons_of_mem _ h | exact List.mem_cons_of_mem _ (List.mem_cons_of_mem _ h) | (simp at h ⊢; simp [h])) ?_
                  refine ws_nil ?_
                  refine qe_block ?_
                  refine qe_then ?_
                  refine wc_keep [(1, _), (2, _), (5, _), (6, _), (7, _)] rfl ?_
                  refine wc_seq ?_
                  refine wc_seq ?_
                  refine wc_plain [(0, .x true), (1, .x true), (2, .x true)] (by kernel_rfl) ?_
                  refine ws_l rfl rfl rfl rfl (rd_fieldAddr rfl) ?_
                  refine ws_l rfl rfl rfl rfl (rd_load rfl) ?_
                  refine ws_l rfl rfl rfl rfl (rd_cmp_f rfl rfl rfl (by simp only [cmpP]; rw [hs]; decide)) ?_
                  refine ws_nil ?_
                  refine qe_then ?_
                  refine wc_false rfl ?_
                  refine wc_skip ?_
                  refine qe_then ?_
                  refine wc_seq ?_
                  refine wc_plain [(0, .x true), (1, .x true), (2, .x true), (3, .x true), (4, .x true), (5, .x true)] (by kernel_rfl) ?_
                  refine ws_l rfl rfl rfl rfl (rd_load rfl) ?_
                  refine ws_l rfl rfl rfl rfl (rd_move rfl) ?_
                  refine ws_l rfl rfl rfl rfl (rd_move rfl) ?_
                  refine ws_store rfl rfl rfl rfl (by first | exact .inl (by assumption) | exact .inr (by simp)) (fun _ h _ => by first | (cases h; done) | exact List.mem_cons_of_mem _ h | exact List.mem_cons_of_mem _ (List.mem_cons_of_mem _ h) | (simp at h ⊢; simp [h])) ?_
                  refine ws_l rfl rfl rfl rfl (rd_assign rfl) ?_
                  refine ws_l rfl rfl rfl rfl (rd_assign rfl) ?_
                  refine ws_nil ?_
                  refine qe_then ?_
                  refine wc_keep [(2, _), (3, _), (4, _)] rfl ?_
                  refine wc_ret ?_
                  refine qe_body _ (.inl rfl) (res3 rfl (RV.cell rfl) (RV.tmp rfl) (RV.tmp rfl)) ?_
                  exact ret_end fun w hp hn ho => by simp [rekR, rekK, rekN, rek1, rek0, idM, hs, hn0]
                · intro h99
                  have hs5 : m.spoil ≠ 5 := u8_isnt (k := 5) (by omega) (by simpa [cmpP] using h99)
                  refine ws_l rfl rfl rfl rfl (rd_assign rfl) ?_
                  refine ws_nil ?_
                  refine qe_then ?_
                  refine wc_false rfl ?_
                  refine wc_seq ?_
                  refine wc_plain [(0, .x true), (1, .x true)] (by kernel_rfl) ?_
                  refine ws_lcmp rfl rfl rfl (rfl) (rfl) (rfl) ?_ ?_
                  · intro h104
                    have hs : m.spoil = 6 := u8_is (k := 6) (by omega) (by simpa [cmpP] using h104)
                    refine ws_l rfl rfl rfl rfl (rd_assign rfl) ?_
                    refine ws_nil ?_
                    refine qe_then ?_
                    refine wc_keep [(1, _), (2, _), (5, _), (6, _), (7, _), (56, _), (103, _)] rfl ?_
                    refine wc_true rfl ?_
                    refine wc_plain [(0, .x true), (1, .x true), (2, .x true), (3, .x true), (4, .x true), (5, .x true), (6, .x true), (7, .x true)] (by kernel_rfl) ?_
                    refine ws_buildSlice rfl rfl rfl rfl ?_
                    intro b105 hb105
                    refine ws_l rfl rfl rfl rfl (rd_fieldAddr rfl) ?_
                    refine ws_l rfl rfl rfl rfl (rd_load rfl) ?_
                    refine ws_l rfl rfl rfl rfl (rd_rem (((m.leaf % 4 : UInt8).toNat : Nat) : Int) rfl rfl (by omega) (u8_rem m.leaf 4 (by omega))) ?_
                    have at4 := pick_at (-1) 8 2 4 m.leaf
                    have hl4 : (m.leaf % 4).toNat < 4 := by rw [UInt8.toNat_mod]; exact Nat.mod_lt _ (by decide)
                    refine ws_l rfl rfl rfl rfl (rd_ix (j := (m.leaf % 4).toNat) rfl rfl Tryz.underlying88 Tryz.sizeOf3 hl4) ?_
                    refine ws_l rfl rfl rfl rfl (rd_load rfl) ?_
                    refine ws_l rfl rfl rfl rfl (rd_fieldAddr rfl) ?_
                    refine ws_store rfl rfl rfl rfl (by first | exact .inl (by assumption) | exact .inr (by simp)) (fun _ h _ => by first | (cases h; done) | exact List.mem_cons_of_mem _ h | exact List.mem_cons_of_mem _ (List.mem_cons_of_mem _ h) | (simp at h ⊢; simp [h])) ?_
                    refine ws_nil ?_
                    refine qe_block ?_
                    refine qe_then ?_
                    refine wc_keep [(1, _), (2, _), (5, _), (6, _), (7, _)] rfl ?_
                    refine wc_seq ?_
                    refine wc_seq ?_
                    refine wc_plain [(0, .x true), (1, .x true), (2, .x true)] (by kernel_rfl) ?_
                    refine ws_l rfl rfl rfl rfl (rd_fieldAddr rfl) ?_
                    refine ws_l rfl rfl rfl rfl (rd_load rfl) ?_
                    refine ws_l rfl rfl rfl rfl (rd_cmp_f rfl rfl rfl (by simp only [cmpP]; rw [hs]; decide)) ?_
                    refine ws_nil ?_
                    refine qe_then ?_
                    refine wc_false rfl ?_
                    refine wc_skip ?_
                    refine qe_then ?_
                    refine wc_seq ?_
                    refine wc_plain [(0, .x true), (1, .x true), (2, .x true), (3, .x true), (4, .x true), (5, .x true)] (by kernel_rfl) ?_
                    refine ws_l rfl rfl rfl rfl (rd_load rfl) ?_
                    refine ws_l rfl rfl rfl rfl (rd_move rfl) ?_
                    refine ws_l rfl rfl rfl rfl (rd_move rfl) ?_
                    refine ws_store rfl rfl rfl rfl (by first | exact .inl (by assumption) | exact .inr (by simp)) (fun _ h _ => by first | (cases h; done) | exact List.mem_cons_of_mem _ h | exact List.mem_cons_of_mem _ (List.mem_cons_of_mem _ h) | (simp at h ⊢; simp [h])) ?_
                    refine ws_l rfl rfl rfl rfl (rd_assign rfl) ?_
                    refine ws_l rfl rfl rfl rfl (rd_assign rfl) ?_
                    refine ws_nil ?_
                    refine qe_then ?_
                    refine wc_keep [(2, _), (3, _), (4, _)] rfl ?_
                    refine wc_ret ?_
                    refine qe_body _ (.inl rfl) (res3 rfl (RV.cell rfl) (RV.tmp rfl) (RV.tmp rfl)) ?_
                    exact ret_end fun w hp hn ho => by simp [rekR, rekK, rekN, rek1, rek0, idM, hs, hn0]
                  · intro h104
                    have hs6 : m.spoil ≠ 6 := u8_isnt (k := 6) (by omega) (by simpa [cmpP] using h104)
                    refine ws_l rfl rfl rfl rfl (rd_assign rfl) ?_
                    refine ws_nil ?_
                    refine qe_then ?_
                    refine wc_keep [(1, _), (2, _), (5, _), (6, _), (7, _), (56, _), (103, _)] rfl ?_
                    refine wc_false rfl ?_
                    refine wc_seq ?_
                    refine wc_plain [(0, .x true), (1, .x true)] (by kernel_rfl) ?_
                    refine ws_lcmp rfl rfl rfl (rfl) (rfl) (rfl) ?_ ?_
                    · intro h113
                      have hs : m.spoil = 7 := u8_is (k := 7) (by omega) (by simpa [cmpP] using h113)
                      refine ws_l rfl rfl rfl rfl (rd_assign rfl) ?_
                      refine ws_nil ?_
                      refine qe_then ?_
                      refine wc_true rfl ?_
                      refine wc_plain [(0, .x true), (1, .x true), (2, .x true), (3, .x true), (4, .x true), (5, .x true), (6, .x true)] (by kernel_rfl) ?_
                      refine ws_l rfl rfl rfl rfl (rd_fieldAddr rfl) ?_
                      have at35 := fun r : RK => rk_get35 r
                      have st35 := fun (r : RK) (z : UInt8) => rk_set35 r z
                      refine ws_l rfl rfl rfl rfl (rd_ixArr 35 rfl rfl Tryz.underlying28 Tryz.sizeOf5 ⟨by omega, by omega⟩ rfl) ?_
                      refine ws_l rfl rfl rfl rfl (rd_load rfl) ?_
                      refine ws_l rfl rfl rfl rfl (rd_bits _ rfl rfl (xor8 _ 1)) ?_
                      refine ws_l rfl rfl rfl rfl (rd_fieldAddr rfl) ?_
                      refine ws_l rfl rfl rfl rfl (rd_ixArr 35 rfl rfl Tryz.underlying28 Tryz.sizeOf5 ⟨by omega, by omega⟩ rfl) ?_
                      refine ws_store rfl rfl rfl rfl (by first | exact .inl (by assumption) | exact .inr (by simp)) (fun _ h _ => by first | (cases h; done) | exact List.mem_cons_of_mem _ h | exact List.mem_cons_of_mem _ (List.mem_cons_of_mem _ h) | (simp at h ⊢; simp [h])) ?_
                      refine ws_nil ?_
                      refine qe_block ?_
                      refine qe_then ?_
                      refine wc_keep [(1, _), (2, _), (5, _), (6, _), (7, _)] rfl ?_
                      refine wc_seq ?_
                      refine wc_seq ?_
                      refine wc_plain [(0, .x true), (1, .x true), (2, .x true)] (by kernel_rfl) ?_
                      refine ws_l rfl rfl rfl rfl (rd_fieldAddr rfl) ?_
                      refine ws_l rfl rfl rfl rfl (rd_load rfl) ?_
                      refine ws_l rfl rfl rfl rfl (rd_cmp_f rfl rfl rfl (by simp only [cmpP]; rw [hs]; decide)) ?_
                      refine ws_nil ?_
                      refine qe_then ?_
                      refine wc_false rfl ?_
                      refine wc_skip ?_
                      refine qe_then ?_
                      refine wc_seq ?_
                      refine wc_plain [(0, .x true), (1, .x true), (2, .x true), (3, .x true), (4, .x true), (5, .x true)] (by kernel_rfl) ?_
                      refine ws_l rfl rfl rfl rfl (rd_load rfl) ?_
                      refine ws_l rfl rfl rfl rfl (rd_move rfl) ?_
                      refine ws_l rfl rfl rfl rfl (rd_move rfl) ?_
                      refine ws_store rfl rfl rfl rfl (by first | exact .inl (by assumption) | exact .inr (by simp)) (fun _ h _ => by first | (cases h; done) | exact List.mem_cons_of_mem _ h | exact List.mem_cons_of_mem _ (List.mem_cons_of_mem _ h) | (simp at h ⊢; simp [h])) ?_
                      refine ws_l rfl rfl rfl rfl (rd_assign rfl) ?_
                      refine ws_l rfl rfl rfl rfl (rd_assign rfl) ?_
                      refine ws_nil ?_
                      refine qe_then ?_
                      refine wc_keep [(2, _), (3, _), (4, _)] rfl ?_
                      refine wc_ret ?_
                      refine qe_body _ (.inl rfl) (res3 rfl (RV.cell rfl) (RV.tmp rfl) (RV.tmp rfl)) ?_
                      exact ret_end fun w hp hn ho => by simp [rekR, rekK, rekN, rek1, rek0, idM, hs, hn0]
                    · intro h113
                      have hs7 : m.spoil ≠ 7 := u8_isnt (k := 7) (by omega) (by simpa [cmpP] using h113)
                      refine ws_l rfl rfl rfl rfl (rd_assign rfl) ?_
                      refine ws_nil ?_
                      refine qe_then ?_
                      refine wc_false rfl ?_
                      refine wc_skip ?_
                      refine qe_block ?_
                      refine qe_then ?_
                      refine wc_seq ?_
                      refine wc_seq ?_
                      refine wc_plain [(0, .x true), (1, .x true), (2, .x true)] (by kernel_rfl) ?_
                      refine ws_l rfl rfl rfl rfl (rd_fieldAddr rfl) ?_
                      refine ws_l rfl rfl rfl rfl (rd_load rfl) ?_
                      refine ws_l rfl rfl rfl rfl (rd_cmp_f rfl rfl rfl (by simp only [cmpP]; exact fun e => hs1 (u8_is (k := 1) (by omega) e))) ?_
                      refine ws_nil ?_
                      refine qe_then ?_
                      refine wc_keep [(2, _), (5, _), (6, _), (7, _), (122, _)] rfl ?_
                      refine wc_false rfl ?_
                      refine wc_skip ?_
                      refine qe_then ?_
                      refine wc_seq ?_
                      refine wc_plain [(0, .x true), (1, .x true), (2, .x true), (3, .x true), (4, .x true), (5, .x true)] (by kernel_rfl) ?_
                      refine ws_l rfl rfl rfl rfl (rd_load rfl) ?_
                      refine ws_l rfl rfl rfl rfl (rd_move rfl) ?_
                      refine ws_l rfl rfl rfl rfl (rd_move rfl) ?_
                      refine ws_store rfl rfl rfl rfl (by first | exact .inl (by assumption) | exact .inr (by simp)) (fun _ h _ => by first | (cases h; done) | exact List.mem_cons_of_mem _ h | exact List.mem_cons_of_mem _ (List.mem_cons_of_mem _ h) | (simp at h ⊢; simp [h])) ?_
                      refine ws_l rfl rfl rfl rfl (rd_assign rfl) ?_
                      refine ws_l rfl rfl rfl rfl (rd_assign rfl) ?_
                      refine ws_nil ?_
                      refine qe_then ?_
                      refine wc_keep [(2, _), (3, _), (4, _)] rfl ?_
                      refine wc_ret ?_
                      refine qe_body _ (.inl rfl) (res3 rfl (RV.cell rfl) (RV.tmp rfl) (RV.tmp rfl)) ?_
                      exact ret_end fun w hp hn ho => by simp [rekR, rekK, rekN, rek1, rek0, idM, hs0, hs1, hs2, hs3, hs4, hs5, hs6, hs7, hn0]
    · intro h38
      have hn0 : ¬ m.number.toNat % 3 = 0 := by simp only [cmpP] at h38; omega
      refine ws_nil ?_
      refine qe_then ?_
      refine wc_false rfl ?_
      refine wc_skip ?_
      refine qe_then ?_
      refine wc_seq ?_
      refine wc_drawn mixedT _ (fun _ h => h) [(0, .r), (1, .r), (2, .r), (3, .r), (4, .x true)] (by kernel_rfl) ?_
      refine ws_r rfl rfl rfl rfl (rd_fieldAddr rfl) ?_
      refine ws_r rfl rfl rfl rfl (rd_load rfl) ?_
      refine ws_r rfl rfl rfl rfl (rd_arith (((m.number.toNat % 3 : Nat) : Int) + 1) rfl rfl rfl (by show IntKind.i64.wrap (((m.number.toNat % 3 : Nat) : Int) + 1) = _; exact wrap_i64 _ (by omega) (by omega))) ?_
      refine ws_r rfl rfl rfl rfl (rd_assign rfl) ?_
      refine ws_late rfl ?_
      refine ws_l rfl rfl rfl rfl (rd_assign rfl) ?_
      refine ws_nil ?_
      refine qe_then ?_
      refine wc_keep [(1, _), (2, _), (5, _), (6, _), (7, _)] rfl ?_
      refine wc_seq ?_
      refine wc_seq ?_
      refine wc_plain [(0, .x true), (1, .x true)] (by kernel_rfl) ?_
      refine ws_l rfl rfl rfl rfl (rd_fieldAddr rfl) ?_
      refine ws_l rfl rfl rfl rfl (rd_load rfl) ?_
      refine ws_nil ?_
      refine qe_then ?_
      refine wc_block ?_
      refine wc_seq ?_
      refine wc_plain [(0, .x true), (1, .x true)] (by kernel_rfl) ?_
      refine ws_lcmp rfl rfl rfl (rfl) (rfl) (rfl) ?_ ?_
      · intro h58
        have hs : m.spoil = 0 := u8_is (k := 0) (by omega) (by simpa [cmpP] using h58)
        refine ws_l rfl rfl rfl rfl (rd_assign rfl) ?_
        refine ws_nil ?_
        refine qe_then ?_
        refine wc_true rfl ?_
        refine wc_plain [(0, .x true), (1, .x true), (2, .x true), (3, .x true), (4, .x true)] (by kernel_rfl) ?_
        refine ws_l rfl rfl rfl rfl (rd_fieldAddr rfl) ?_
        refine ws_l rfl rfl rfl rfl (rd_load rfl) ?_
        refine ws_l rfl rfl rfl rfl (rd_conv rfl (run_conv_int ((m.leaf.toNat : Nat) : Int) Tryz.underlying5 Tryz.underlying3 (wrap_i64 _ (by omega) (by have := m.leaf.toNat_lt; omega)))) ?_
        refine ws_l rfl rfl rfl rfl (rd_rem ((m.leaf.toNat % 7 : Nat) : Int) rfl rfl (by omega) (tmodN _ 7)) ?_
        refine ws_l rfl rfl rfl rfl (rd_assign rfl) ?_
        refine ws_nil ?_
        refine qe_block ?_
        refine qe_then ?_
        refine wc_keep [(1, _), (2, _), (5, _), (6, _), (7, _)] rfl ?_
        refine wc_seq ?_
        refine wc_seq ?_
        refine wc_plain [(0, .x true), (1, .x true), (2, .x true)] (by kernel_rfl) ?_
        refine ws_l rfl rfl rfl rfl (rd_fieldAddr rfl) ?_
        refine ws_l rfl rfl rfl rfl (rd_load rfl) ?_
        refine ws_l rfl rfl rfl rfl (rd_cmp_f rfl rfl rfl (by simp only [cmpP]; rw [hs]; decide)) ?_
        refine ws_nil ?_
        refine qe_then ?_
        refine wc_false rfl ?_
        refine wc_skip ?_
        refine qe_then ?_
        refine wc_seq ?_
        refine wc_plain [(0, .x true), (1, .x true), (2, .x true), (3, .x true), (4, .x true), (5, .x true)] (by kernel_rfl) ?_
        refine ws_l rfl rfl rfl rfl (rd_load rfl) ?_
        refine ws_l rfl rfl rfl rfl (rd_move rfl) ?_
        refine ws_l rfl rfl rfl rfl (rd_move rfl) ?_
        refine ws_store rfl rfl rfl rfl (by first | exact .inl (by assumption) | exact .inr (by simp)) (fun _ h _ => by first | (cases h; done) | exact List.mem_cons_of_mem _ h | exact List.mem_cons_of_mem _ (List.mem_cons_of_mem _ h) | (simp at h ⊢; simp [h])) ?_
        refine ws_l rfl rfl rfl rfl (rd_assign rfl) ?_
        refine ws_l rfl rfl rfl rfl (rd_assign rfl) ?_
        refine ws_nil ?_
        refine qe_then ?_
        refine wc_keep [(2, _), (3, _), (4, _)] rfl ?_
        refine wc_ret ?_
        refine qe_body _ (.inl rfl) (res3 rfl (RV.cell rfl) (RV.tmp rfl) (RV.tmp rfl)) ?_
        exact ret_end fun w hp hn ho => by simp [rekR, rekK, rekN, rek1, rek0, idM, hs, hn0]
      · intro h58
        have hs0 : m.spoil ≠ 0 := u8_isnt (k := 0) (by omega) (by simpa [cmpP] using h58)
        refine ws_l rfl rfl rfl rfl (rd_assign rfl) ?_
        refine ws_nil ?_
        refine qe_then ?_
        refine wc_false rfl ?_
        refine wc_seq ?_
        refine wc_plain [(0, .x true), (1, .x true)] (by kernel_rfl) ?_
        refine ws_lcmp rfl rfl rfl (rfl) (rfl) (rfl) ?_ ?_
        · intro h64
          have hs : m.spoil = 1 := u8_is (k := 1) (by omega) (by simpa [cmpP] using h64)
          refine ws_l rfl rfl rfl rfl (rd_assign rfl) ?_
          refine ws_nil ?_
          refine qe_then ?_
          refine wc_true rfl ?_
          refine wc_plain [(0, .x true), (1, .x true), (2, .x true), (3, .x true), (4, .x true), (5, .x true), (6, .x true), (7, .x true)] (by kernel_rfl) ?_
          refine ws_buildSlice rfl rfl rfl rfl ?_
          intro b65 hb65
          refine ws_l rfl rfl rfl rfl (rd_fieldAddr rfl) ?_
          refine ws_l rfl rfl rfl rfl (rd_load rfl) ?_
          refine ws_l rfl rfl rfl rfl (rd_rem (((m.leaf % 4 : UInt8).toNat : Nat) : Int) rfl rfl (by omega) (u8_rem m.leaf 4 (by omega))) ?_
          have at4 := pick_at (-1) 1000 999 1099511627776 m.leaf
          have hl4 : (m.leaf % 4).toNat < 4 := by rw [UInt8.toNat_mod]; exact Nat.mod_lt _ (by decide)
          refine ws_l rfl rfl rfl rfl (rd_ix (j := (m.leaf % 4).toNat) rfl rfl Tryz.underlying88 Tryz.sizeOf3 hl4) ?_
          refine ws_l rfl rfl rfl rfl (rd_load rfl) ?_
          refine ws_l rfl rfl rfl rfl (rd_fieldAddr rfl) ?_
          refine ws_store rfl rfl rfl rfl (by first | exact .inl (by assumption) | exact .inr (by simp)) (fun _ h _ => by first | (cases h; done) | exact List.mem_cons_of_mem _ h | exact List.mem_cons_of_mem _ (List.mem_cons_of_mem _ h) | (simp at h ⊢; simp [h])) ?_
          refine ws_nil ?_
          refine qe_block ?_
          refine qe_then ?_
          refine wc_keep [(1, _), (2, _), (5, _), (6, _), (7, _)] rfl ?_
          refine wc_seq ?_
          refine wc_seq ?_
          refine wc_plain [(0, .x true), (1, .x true), (2, .x true)] (by kernel_rfl) ?_
          refine ws_l rfl rfl rfl rfl (rd_fieldAddr rfl) ?_
          refine ws_l rfl rfl rfl rfl (rd_load rfl) ?_
          refine ws_l rfl rfl rfl rfl (rd_cmp_t rfl rfl rfl (by simp only [cmpP]; rw [hs]; decide)) ?_
          refine ws_nil ?_
          refine qe_then ?_
          refine wc_true rfl ?_
          refine wc_plain [(0, .x true), (1, .x true), (2, .x true), (3, .x true)] (by kernel_rfl) ?_
          refine ws_l rfl rfl rfl rfl (rd_fieldAddr rfl) ?_
          refine ws_l rfl rfl rfl rfl (rd_load rfl) ?_
          refine ws_l rfl rfl rfl rfl (rd_arith (pick4 (-1) 1000 999 1099511627776 m.leaf + 1) rfl rfl rfl (by have := pick4_le (-1) 1000 999 1099511627776 m.leaf; show IntKind.i64.wrap (pick4 (-1) 1000 999 1099511627776 m.leaf + 1) = _; exact wrap_i64 _ (by omega) (by omega))) ?_
          refine ws_l rfl rfl rfl rfl (rd_assign rfl) ?_
          refine ws_nil ?_
          refine qe_then ?_
          refine wc_keep [(2, _), (5, _), (6, _), (7, _)] rfl ?_
          refine wc_seq ?_
          refine wc_plain [(0, .x true), (1, .x true), (2, .x true), (3, .x true), (4, .x true), (5, .x true)] (by kernel_rfl) ?_
          refine ws_l rfl rfl rfl rfl (rd_load rfl) ?_
          refine ws_l rfl rfl rfl rfl (rd_move rfl) ?_
          refine ws_l rfl rfl rfl rfl (rd_move rfl) ?_
          refine ws_store rfl rfl rfl rfl (by first | exact .inl (by assumption) | exact .inr (by simp)) (fun _ h _ => by first | (cases h; done) | exact List.mem_cons_of_mem _ h | exact List.mem_cons_of_mem _ (List.mem_cons_of_mem _ h) | (simp at h ⊢; simp [h])) ?_
          refine ws_l rfl rfl rfl rfl (rd_assign rfl) ?_
          refine ws_l rfl rfl rfl rfl (rd_assign rfl) ?_
          refine ws_nil ?_
          refine qe_then ?_
          refine wc_keep [(2, _), (3, _), (4, _)] rfl ?_
          refine wc_ret ?_
          refine qe_body _ (.inl rfl) (res3 rfl (RV.cell rfl) (RV.tmp rfl) (RV.tmp rfl)) ?_
          exact ret_end fun w hp hn ho => by simp [rekR, rekK, rekN, rek1, rek0, idM, hs, hn0]
        · intro h64
          have hs1 : m.spoil ≠ 1 := u8_isnt (k := 1) (by omega) (by simpa [cmpP] using h64)
          refine ws_l rfl rfl rfl rfl (rd_assign rfl) ?_
          refine ws_nil ?_
          refine qe_then ?_
          refine wc_false rfl ?_
          refine wc_seq ?_
          refine wc_plain [(0, .x true), (1, .x true)] (by kernel_rfl) ?_
          refine ws_lcmp rfl rfl rfl (rfl) (rfl) (rfl) ?_ ?_
          · intro h73
            have hs : m.spoil = 2 := u8_is (k := 2) (by omega) (by simpa [cmpP] using h73)
            refine ws_l rfl rfl rfl rfl (rd_assign rfl) ?_
            refine ws_nil ?_
            refine qe_then ?_
            refine wc_keep [(1, _), (2, _), (5, _), (6, _), (7, _), (56, _), (72, _)] rfl ?_
            refine wc_true rfl ?_
            refine wc_plain [(0, .x true), (1, .x true), (2, .x true), (3, .x true), (4, .x true)] (by kernel_rfl) ?_
            refine ws_l rfl rfl rfl rfl (rd_fieldAddr rfl) ?_
            refine ws_l rfl rfl rfl rfl (rd_load rfl) ?_
            refine ws_l rfl rfl rfl rfl (rd_conv rfl (run_conv_int ((m.leaf.toNat : Nat) : Int) Tryz.underlying5 Tryz.underlying3 (wrap_i64 _ (by omega) (by have := m.leaf.toNat_lt; omega)))) ?_
            refine ws_l rfl rfl rfl rfl (rd_rem ((m.leaf.toNat % 5 : Nat) : Int) rfl rfl (by omega) (tmodN _ 5)) ?_
            refine ws_l rfl rfl rfl rfl (rd_assign rfl) ?_
            refine ws_nil ?_
            refine qe_block ?_
            refine qe_then ?_
            refine wc_keep [(1, _), (2, _), (5, _), (6, _), (7, _)] rfl ?_
            refine wc_seq ?_
            refine wc_seq ?_
            refine wc_plain [(0, .x true), (1, .x true), (2, .x true)] (by kernel_rfl) ?_
            refine ws_l rfl rfl rfl rfl (rd_fieldAddr rfl) ?_
            refine ws_l rfl rfl rfl rfl (rd_load rfl) ?_
            refine ws_l rfl rfl rfl rfl (rd_cmp_f rfl rfl rfl (by simp only [cmpP]; rw [hs]; decide)) ?_
            refine ws_nil ?_
            refine qe_then ?_
            refine wc_false rfl ?_
            refine wc_skip ?_
            refine qe_then ?_
            refine wc_seq ?_
            refine wc_plain [(0, .x true), (1, .x true), (2, .x true), (3, .x true), (4, .x true), (5, .x true)] (by kernel_rfl) ?_
            refine ws_l rfl rfl rfl rfl (rd_load rfl) ?_
            refine ws_l rfl rfl rfl rfl (rd_move rfl) ?_
            refine ws_l rfl rfl rfl rfl (rd_move rfl) ?_
            refine ws_store rfl rfl rfl rfl (by first | exact .inl (by assumption) | exact .inr (by simp)) (fun _ h _ => by first | (cases h; done) | exact List.mem_cons_of_mem _ h | exact List.mem_cons_of_mem _ (List.mem_cons_of_mem _ h) | (simp at h ⊢; simp [h])) ?_
            refine ws_l rfl rfl rfl rfl (rd_assign rfl) ?_
            refine ws_l rfl rfl rfl rfl (rd_assign rfl) ?_
            refine ws_nil ?_
            refine qe_then ?_
            refine wc_keep [(2, _), (3, _), (4, _)] rfl ?_
            refine wc_ret ?_
            refine qe_body _ (.inl rfl) (res3 rfl (RV.cell rfl) (RV.tmp rfl) (RV.tmp rfl)) ?_
            exact ret_end fun w hp hn ho => by simp [rekR, rekK, rekN, rek1, rek0, idM, hs, hn0]
          · intro h73
            have hs2 : m.spoil ≠ 2 := u8_isnt (k := 2) (by omega) (by simpa [cmpP] using h73)
            refine ws_l rfl rfl rfl rfl (rd_assign rfl) ?_
            refine ws_nil ?_
            refine qe_then ?_
            refine wc_keep [(1, _), (2, _), (5, _), (6, _), (7, _), (56, _), (72, _)] rfl ?_
            refine wc_false rfl ?_
            refine wc_seq ?_
            refine wc_plain [(0, .x true), (1, .x true)] (by kernel_rfl) ?_
            refine ws_lcmp rfl rfl rfl (rfl) (rfl) (rfl) ?_ ?_
            · intro h79
              have hs : m.spoil = 3 := u8_is (k := 3) (by omega) (by simpa [cmpP] using h79)
              refine ws_l rfl rfl rfl rfl (rd_assign rfl) ?_
              refine ws_nil ?_
              refine qe_then ?_
              refine wc_true rfl ?_
              refine wc_plain [(0, .x true), (1, .x true), (2, .x true), (3, .x true), (4, .x true), (5, .x true), (6, .x true), (7, .x true), (8, .x true)] (by kernel_rfl) ?_
              refine ws_buildSlice rfl rfl rfl rfl ?_
              intro b80 hb80
              refine ws_l rfl rfl rfl rfl (rd_fieldAddr rfl) ?_
              refine ws_l rfl rfl rfl rfl (rd_load rfl) ?_
              refine ws_l rfl rfl rfl rfl (rd_rem (((m.leaf % 4 : UInt8).toNat : Nat) : Int) rfl rfl (by omega) (u8_rem m.leaf 4 (by omega))) ?_
              have at4 := pick_at 0 9 (-1) 8 m.leaf
              have hl4 : (m.leaf % 4).toNat < 4 := by rw [UInt8.toNat_mod]; exact Nat.mod_lt _ (by decide)
              refine ws_l rfl rfl rfl rfl (rd_ix (j := (m.leaf % 4).toNat) rfl rfl Tryz.underlying88 Tryz.sizeOf3 hl4) ?_
              refine ws_l rfl rfl rfl rfl (rd_load rfl) ?_
              refine ws_l rfl rfl rfl rfl (rd_fieldAddr rfl) ?_
              refine ws_l rfl rfl rfl rfl (rd_fieldAddr rfl) ?_
              refine ws_store rfl rfl rfl rfl (by first | exact .inl (by assumption) | exact .inr (by simp)) (fun _ h _ => by first | (cases h; done) | exact List.mem_cons_of_mem _ h | exact List.mem_cons_of_mem _ (List.mem_cons_of_mem _ h) | (simp at h ⊢; simp [h])) ?_
              refine ws_nil ?_
              refine qe_block ?_
              refine qe_then ?_
              refine wc_keep [(1, _), (2, _), (5, _), (6, _), (7, _)] rfl ?_
              refine wc_seq ?_
              refine wc_seq ?_
              refine wc_plain [(0, .x true), (1, .x true), (2, .x true)] (by kernel_rfl) ?_
              refine ws_l rfl rfl rfl rfl (rd_fieldAddr rfl) ?_
              refine ws_l rfl rfl rfl rfl (rd_load rfl) ?_
              refine ws_l rfl rfl rfl rfl (rd_cmp_f rfl rfl rfl (by simp only [cmpP]; rw [hs]; decide)) ?_
              refine ws_nil ?_
              refine qe_then ?_
              refine wc_false rfl ?_
              refine wc_skip ?_
              refine qe_then ?_
              refine wc_seq ?_
              refine wc_plain [(0, .x true), (1, .x true), (2, .x true), (3, .x true), (4, .x true), (5, .x true)] (by kernel_rfl) ?_
              refine ws_l rfl rfl rfl rfl (rd_load rfl) ?_
              refine ws_l rfl rfl rfl rfl (rd_move rfl) ?_
              refine ws_l rfl rfl rfl rfl (rd_move rfl) ?_
              refine ws_store rfl rfl rfl rfl (by first | exact .inl (by assumption) | exact .inr (by simp)) (fun _ h _ => by first | (cases h; done) | exact List.mem_cons_of_mem _ h | exact List.mem_cons_of_mem _ (List.mem_cons_of_mem _ h) | (simp at h ⊢; simp [h])) ?_
              refine ws_l rfl rfl rfl rfl (rd_assign rfl) ?_
              refine ws_l rfl rfl rfl rfl (rd_assign rfl) ?_
              refine ws_nil ?_
              refine qe_then ?_
              refine wc_keep [(2, _), (3, _), (4, _)] rfl ?_
              refine wc_ret ?_
              refine qe_body _ (.inl rfl) (res3 rfl (RV.cell rfl) (RV.tmp rfl) (RV.tmp rfl)) ?_
              exact ret_end fun w hp hn ho => by simp [rekR, rekK, rekN, rek1, rek0, idM, hs, hn0]
            · intro h79
              have hs3 : m.spoil ≠ 3 := u8_isnt (k := 3) (by omega) (by simpa [cmpP] using h79)
              refine ws_l rfl rfl rfl rfl (rd_assign rfl) ?_
              refine ws_nil ?_
              refine qe_then ?_
              refine wc_false rfl ?_
              refine wc_seq ?_
              refine wc_plain [(0, .x true), (1, .x true)] (by kernel_rfl) ?_
              refine ws_lcmp rfl rfl rfl (rfl) (rfl) (rfl) ?_ ?_
              · intro h89
                have hs : m.spoil = 4 := u8_is (k := 4) (by omega) (by simpa [cmpP] using h89)
                refine ws_l rfl rfl rfl rfl (rd_assign rfl) ?_
                refine ws_nil ?_
                refine qe_then ?_
                refine wc_true rfl ?_
                refine wc_plain [(0, .x true), (1, .x true), (2, .x true), (3, .x true), (4, .x true), (5, .x true), (6, .x true), (7, .x true), (8, .x true)] (by kernel_rfl) ?_
                refine ws_buildSlice rfl rfl rfl rfl ?_
                intro b90 hb90
                refine ws_l rfl rfl rfl rfl (rd_fieldAddr rfl) ?_
                refine ws_l rfl rfl rfl rfl (rd_load rfl) ?_
                refine ws_l rfl rfl rfl rfl (rd_rem (((m.leaf % 4 : UInt8).toNat : Nat) : Int) rfl rfl (by omega) (u8_rem m.leaf 4 (by omega))) ?_
                have at4 := pick_at 0 9 (-1) 8 m.leaf
                have hl4 : (m.leaf % 4).toNat < 4 := by rw [UInt8.toNat_mod]; exact Nat.mod_lt _ (by decide)
                refine ws_l rfl rfl rfl rfl (rd_ix (j := (m.leaf % 4).toNat) rfl rfl Tryz.underlying88 Tryz.sizeOf3 hl4) ?_
                refine ws_l rfl rfl rfl rfl (rd_load rfl) ?_
                refine ws_l rfl rfl rfl rfl (rd_fieldAddr rfl) ?_
                refine ws_l rfl rfl rfl rfl (rd_fieldAddr rfl) ?_
                refine ws_store rfl rfl rfl rfl (by first | exact .inl (by assumption) | exact .inr (by simp)) (fun _ h _ => by first | (cases h; done) | exact List.mem_cons_of_mem _ h | exact List.mem_cons_of_mem _ (List.mem_cons_of_mem _ h) | (simp at h ⊢; simp [h])) ?_
                refine ws_nil ?_
                refine qe_block ?_
                refine qe_then ?_
                refine wc_keep [(1, _), (2, _), (5, _), (6, _), (7, _)] rfl ?_
                refine wc_seq ?_
                refine wc_seq ?_
                refine wc_plain [(0, .x true), (1, .x true), (2, .x true)] (by kernel_rfl) ?_
                refine ws_l rfl rfl rfl rfl (rd_fieldAddr rfl) ?_
                refine ws_l rfl rfl rfl rfl (rd_load rfl) ?_
                refine ws_l rfl rfl rfl rfl (rd_cmp_f rfl rfl rfl (by simp only [cmpP]; rw [hs]; decide)) ?_
                refine ws_nil ?_
                refine qe_then ?_
                refine wc_false rfl ?_
                refine wc_skip ?_
                refine qe_then ?_
                refine wc_seq ?_
                refine wc_plain [(0, .x true), (1, .x true), (2, .x true), (3, .x true), (4, .x true), (5, .x true)] (by kernel_rfl) ?_
                refine ws_l rfl rfl rfl rfl (rd_load rfl) ?_
                refine ws_l rfl rfl rfl rfl (rd_move rfl) ?_
                refine ws_l rfl rfl rfl rfl (rd_move rfl) ?_
                refine ws_store rfl rfl rfl rfl (by first | exact .inl (by assumption) | exact .inr (by simp)) (fun _ h _ => by first | (cases h; done) | exact List.mem_cons_of_mem _ h | exact List.mem_cons_of_mem _ (List.mem_cons_of_mem _ h) | (simp at h ⊢; simp [h])) ?_
                refine ws_l rfl rfl rfl rfl (rd_assign rfl) ?_
                refine ws_l rfl rfl rfl rfl (rd_assign rfl) ?_
                refine ws_nil ?_
                refine qe_then ?_
                refine wc_keep [(2, _), (3, _), (4, _)] rfl ?_
                refine wc_ret ?_
                refine qe_body _ (.inl rfl) (res3 rfl (RV.cell rfl) (RV.tmp rfl) (RV.tmp rfl)) ?_
                exact ret_end fun w hp hn ho => by simp [rekR, rekK, rekN, rek1, rek0, idM, hs, hn0]
              · intro h89
                have hs4 : m.spoil ≠ 4 := u8_isnt (k := 4) (by omega) (by simpa [cmpP] using h89)
                refine ws_l rfl rfl rfl rfl (rd_assign rfl) ?_
                refine ws_nil ?_
                refine qe_then ?_
                refine wc_false rfl ?_
                refine wc_seq ?_
                refine wc_plain [(0, .x true), (1, .x true)] (by kernel_rfl) ?_
                refine ws_lcmp rfl rfl rfl (rfl) (rfl) (rfl) ?_ ?_
                · intro h99
                  have hs : m.spoil = 5 := u8_is (k := 5) (by omega) (by simpa [cmpP] using h99)
                  refine ws_l rfl rfl rfl rfl (rd_assign rfl) ?_
                  refine ws_nil ?_
                  refine qe_then ?_
                  refine wc_keep [(1, _), (2, _), (5, _), (6, _), (7, _), (56, _), (98, _)] rfl ?_
                  refine wc_true rfl ?_
                  refine wc_plain [(0, .x true), (1, .x true), (2, .x true), (3, .x true)] (by kernel_rfl) ?_
                  refine ws_l rfl rfl rfl rfl (rd_fieldAddr rfl) ?_
                  refine ws_l rfl rfl rfl rfl (rd_load rfl) ?_
                  refine ws_l rfl rfl rfl rfl (rd_fieldAddr rfl) ?_
                  refine ws_store rfl rfl rfl rfl (by first | exact .inl (by assumption) | exact .inr (by simp)) (fun _ h _ => by first | (cases h; done) | exact List.mem_cons_of_mem _ h | exact List.mem_cons_of_mem _ (List.mem_cons_of_mem _ h) | (simp at h ⊢; simp [h])) ?_
                  refine ws_nil ?_
                  refine qe_block ?_
                  refine qe_then ?_
                  refine wc_keep [(1, _), (2, _), (5, _), (6, _), (7, _)] rfl ?_
                  refine wc_seq ?_
                  refine wc_seq ?_
                  refine wc_plain [(0, .x true), (1, .x true), (2, .x true)] (by kernel_rfl) ?_
                  refine ws_l rfl rfl rfl rfl (rd_fieldAddr rfl) ?_
                  refine ws_l rfl rfl rfl rfl (rd_load rfl) ?_
                  refine ws_l rfl rfl rfl rfl (rd_cmp_f rfl rfl rfl (by simp only [cmpP]; rw [hs]; decide)) ?_
                  refine ws_nil ?_
                  refine qe_then ?_
                  refine wc_false rfl ?_
                  refine wc_skip ?_
                  refine qe_then ?_
                  refine wc_seq ?_
                  refine wc_plain [(0, .x true), (1, .x true), (2, .x true), (3, .x true), (4, .x true), (5, .x true)] (by kernel_rfl) ?_
                  refine ws_l rfl rfl rfl rfl (rd_load rfl) ?_
                  refine ws_l rfl rfl rfl rfl (rd_move rfl) ?_
                  refine ws_l rfl rfl rfl rfl (rd_move rfl) ?_
                  refine ws_store rfl rfl rfl rfl (by first | exact .inl (by assumption) | exact .inr (by simp)) (fun _ h _ => by first | (cases h; done) | exact List.mem_cons_of_mem _ h | exact List.mem_cons_of_mem _ (List.mem_cons_of_mem _ h) | (simp at h ⊢; simp [h])) ?_
                  refine ws_l rfl rfl rfl rfl (rd_assign rfl) ?_
                  refine ws_l rfl rfl rfl rfl (rd_assign rfl) ?_
                  refine ws_nil ?_
                  refine qe_then ?_
                  refine wc_keep [(2, _), (3, _), (4, _)] rfl ?_
                  refine wc_ret ?_
                  refine qe_body _ (.inl rfl) (res3 rfl (RV.cell rfl) (RV.tmp rfl) (RV.tmp rfl)) ?_
                  exact ret_end fun w hp hn ho => by simp [rekR, rekK, rekN, rek1, rek0, idM, hs, hn0]
                · intro h99
                  have hs5 : m.spoil ≠ 5 := u8_isnt (k := 5) (by omega) (by simpa [cmpP] using h99)
                  refine ws_l rfl rfl rfl rfl (rd_assign rfl) ?_
                  refine ws_nil ?_
                  refine qe_then ?_
                  refine wc_keep [(1, _), (2, _), (5, _), (6, _), (7, _), (56, _), (98, _)] rfl ?_
                  refine wc_false rfl ?_
                  refine wc_seq ?_
                  refine wc_plain [(0, .x true), (1, .x true)] (by kernel_rfl) ?_
                  refine ws_lcmp rfl rfl rfl (rfl) (rfl) (rfl) ?_ ?_
                  · intro h104
                    have hs : m.spoil = 6 := u8_is (k := 6) (by omega) (by simpa [cmpP] using h104)
                    refine ws_l rfl rfl rfl rfl (rd_assign rfl) ?_
                    refine ws_nil ?_
                    refine qe_then ?_
                    refine wc_true rfl ?_
                    refine wc_plain [(0, .x true), (1, .x true), (2, .x true), (3, .x true), (4, .x true), (5, .x true), (6, .x true), (7, .x true)] (by kernel_rfl) ?_
                    refine ws_buildSlice rfl rfl rfl rfl ?_
                    intro b105 hb105
                    refine ws_l rfl rfl rfl rfl (rd_fieldAddr rfl) ?_
                    refine ws_l rfl rfl rfl rfl (rd_load rfl) ?_
                    refine ws_l rfl rfl rfl rfl (rd_rem (((m.leaf % 4 : UInt8).toNat : Nat) : Int) rfl rfl (by omega) (u8_rem m.leaf 4 (by omega))) ?_
                    have at4 := pick_at (-1) 8 2 4 m.leaf
                    have hl4 : (m.leaf % 4).toNat < 4 := by rw [UInt8.toNat_mod]; exact Nat.mod_lt _ (by decide)
                    refine ws_l rfl rfl rfl rfl (rd_ix (j := (m.leaf % 4).toNat) rfl rfl Tryz.underlying88 Tryz.sizeOf3 hl4) ?_
                    refine ws_l rfl rfl rfl rfl (rd_load rfl) ?_
                    refine ws_l rfl rfl rfl rfl (rd_fieldAddr rfl) ?_
                    refine ws_store rfl rfl rfl rfl (by first | exact .inl (by assumption) | exact .inr (by simp)) (fun _ h _ => by first | (cases h; done) | exact List.mem_cons_of_mem _ h | exact List.mem_cons_of_mem _ (List.mem_cons_of_mem _ h) | (simp at h ⊢; simp [h])) ?_
                    refine ws_nil ?_
                    refine qe_block ?_
                    refine qe_then ?_
                    refine wc_keep [(1, _), (2, _), (5, _), (6, _), (7, _)] rfl ?_
                    refine wc_seq ?_
                    refine wc_seq ?_
                    refine wc_plain [(0, .x true), (1, .x true), (2, .x true)] (by kernel_rfl) ?_
                    refine ws_l rfl rfl rfl rfl (rd_fieldAddr rfl) ?_
                    refine ws_l rfl rfl rfl rfl (rd_load rfl) ?_
                    refine ws_l rfl rfl rfl rfl (rd_cmp_f rfl rfl rfl (by simp only [cmpP]; rw [hs]; decide)) ?_
                    refine ws_nil ?_
                    refine qe_then ?_
                    refine wc_false rfl ?_
                    refine wc_skip ?_
                    refine qe_then ?_
                    refine wc_seq ?_
                    refine wc_plain [(0, .x true), (1, .x true), (2, .x true), (3, .x true), (4, .x true), (5, .x true)] (by kernel_rfl) ?_
                    refine ws_l rfl rfl rfl rfl (rd_load rfl) ?_
                    refine ws_l rfl rfl rfl rfl (rd_move rfl) ?_
                    refine ws_l rfl rfl rfl rfl (rd_move rfl) ?_
                    refine ws_store rfl rfl rfl rfl (by first | exact .inl (by assumption) | exact .inr (by simp)) (fun _ h _ => by first | (cases h; done) | exact List.mem_cons_of_mem _ h | exact List.mem_cons_of_mem _ (List.mem_cons_of_mem _ h) | (simp at h ⊢; simp [h])) ?_
                    refine ws_l rfl rfl rfl rfl (rd_assign rfl) ?_
                    refine ws_l rfl rfl rfl rfl (rd_assign rfl) ?_
                    refine ws_nil ?_
                    refine qe_then ?_
                    refine wc_keep [(2, _), (3, _), (4, _)] rfl ?_
                    refine wc_ret ?_
                    refine qe_body _ (.inl rfl) (res3 rfl (RV.cell rfl) (RV.tmp rfl) (RV.tmp rfl)) ?_
                    exact ret_end fun w hp hn ho => by simp [rekR, rekK, rekN, rek1, rek0, idM, hs, hn0]
                  · intro h104
                    have hs6 : m.spoil ≠ 6 := u8_isnt (k := 6) (by omega) (by simpa [cmpP] using h104)
                    refine ws_l rfl rfl rfl rfl (rd_assign rfl) ?_
                    refine ws_nil ?_
                    refine qe_then ?_
                    refine wc_false rfl ?_
                    refine wc_seq ?_
                    refine wc_plain [(0, .x true), (1, .x true)] (by kernel_rfl) ?_
                    refine ws_lcmp rfl rfl rfl (rfl) (rfl) (rfl) ?_ ?_
                    · intro h113
                      have hs : m.spoil = 7 := u8_is (k := 7) (by omega) (by simpa [cmpP] using h113)
                      refine ws_l rfl rfl rfl rfl (rd_assign rfl) ?_
                      refine ws_nil ?_
                      refine qe_then ?_
                      refine wc_keep [(1, _), (2, _), (5, _), (6, _), (7, _), (112, _)] rfl ?_
                      refine wc_true rfl ?_
                      refine wc_plain [(0, .x true), (1, .x true), (2, .x true), (3, .x true), (4, .x true), (5, .x true), (6, .x true)] (by kernel_rfl) ?_
                      refine ws_l rfl rfl rfl rfl (rd_fieldAddr rfl) ?_
                      have at35 := fun r : RK => rk_get35 r
                      have st35 := fun (r : RK) (z : UInt8) => rk_set35 r z
                      refine ws_l rfl rfl rfl rfl (rd_ixArr 35 rfl rfl Tryz.underlying28 Tryz.sizeOf5 ⟨by omega, by omega⟩ rfl) ?_
                      refine ws_l rfl rfl rfl rfl (rd_load rfl) ?_
                      refine ws_l rfl rfl rfl rfl (rd_bits _ rfl rfl (xor8 _ 1)) ?_
                      refine ws_l rfl rfl rfl rfl (rd_fieldAddr rfl) ?_
                      refine ws_l rfl rfl rfl rfl (rd_ixArr 35 rfl rfl Tryz.underlying28 Tryz.sizeOf5 ⟨by omega, by omega⟩ rfl) ?_
                      refine ws_store rfl rfl rfl rfl (by first | exact .inl (by assumption) | exact .inr (by simp)) (fun _ h _ => by first | (cases h; done) | exact List.mem_cons_of_mem _ h | exact List.mem_cons_of_mem _ (List.mem_cons_of_mem _ h) | (simp at h ⊢; simp [h])) ?_
                      refine ws_nil ?_
                      refine qe_block ?_
                      refine qe_then ?_
                      refine wc_keep [(1, _), (2, _), (5, _), (6, _), (7, _)] rfl ?_
                      refine wc_seq ?_
                      refine wc_seq ?_
                      refine wc_plain [(0, .x true), (1, .x true), (2, .x true)] (by kernel_rfl) ?_
                      refine ws_l rfl rfl rfl rfl (rd_fieldAddr rfl) ?_
                      refine ws_l rfl rfl rfl rfl (rd_load rfl) ?_
                      refine ws_l rfl rfl rfl rfl (rd_cmp_f rfl rfl rfl (by simp only [cmpP]; rw [hs]; decide)) ?_
                      refine ws_nil ?_
                      refine qe_then ?_
                      refine wc_false rfl ?_
                      refine wc_skip ?_
                      refine qe_then ?_
                      refine wc_seq ?_
                      refine wc_plain [(0, .x true), (1, .x true), (2, .x true), (3, .x true), (4, .x true), (5, .x true)] (by kernel_rfl) ?_
                      refine ws_l rfl rfl rfl rfl (rd_load rfl) ?_
                      refine ws_l rfl rfl rfl rfl (rd_move rfl) ?_
                      refine ws_l rfl rfl rfl rfl (rd_move rfl) ?_
                      refine ws_store rfl rfl rfl rfl (by first | exact .inl (by assumption) | exact .inr (by simp)) (fun _ h _ => by first | (cases h; done) | exact List.mem_cons_of_mem _ h | exact List.mem_cons_of_mem _ (List.mem_cons_of_mem _ h) | (simp at h ⊢; simp [h])) ?_
                      refine ws_l rfl rfl rfl rfl (rd_assign rfl) ?_
                      refine ws_l rfl rfl rfl rfl (rd_assign rfl) ?_
                      refine ws_nil ?_
                      refine qe_then ?_
                      refine wc_keep [(2, _), (3, _), (4, _)] rfl ?_
                      refine wc_ret ?_
                      refine qe_body _ (.inl rfl) (res3 rfl (RV.cell rfl) (RV.tmp rfl) (RV.tmp rfl)) ?_
                      exact ret_end fun w hp hn ho => by simp [rekR, rekK, rekN, rek1, rek0, idM, hs, hn0]
                    · intro h113
                      have hs7 : m.spoil ≠ 7 := u8_isnt (k := 7) (by omega) (by simpa [cmpP] using h113)
                      refine ws_l rfl rfl rfl rfl (rd_assign rfl) ?_
                      refine ws_nil ?_
                      refine qe_then ?_
                      refine wc_keep [(1, _), (2, _), (5, _), (6, _), (7, _), (112, _)] rfl ?_
                      refine wc_false rfl ?_
                      refine wc_skip ?_
                      refine qe_block ?_
                      refine qe_then ?_
                      refine wc_seq ?_
                      refine wc_seq ?_
                      refine wc_plain [(0, .x true), (1, .x true), (2, .x true)] (by kernel_rfl) ?_
                      refine ws_l rfl rfl rfl rfl (rd_fieldAddr rfl) ?_
                      refine ws_l rfl rfl rfl rfl (rd_load rfl) ?_
                      refine ws_l rfl rfl rfl rfl (rd_cmp_f rfl rfl rfl (by simp only [cmpP]; exact fun e => hs1 (u8_is (k := 1) (by omega) e))) ?_
                      refine ws_nil ?_
                      refine qe_then ?_
                      refine wc_false rfl ?_
                      refine wc_skip ?_
                      refine qe_then ?_
                      refine wc_keep [(2, _), (5, _), (6, _), (7, _)] rfl ?_
                      refine wc_seq ?_
                      refine wc_plain [(0, .x true), (1, .x true), (2, .x true), (3, .x true), (4, .x true), (5, .x true)] (by kernel_rfl) ?_
                      refine ws_l rfl rfl rfl rfl (rd_load rfl) ?_
                      refine ws_l rfl rfl rfl rfl (rd_move rfl) ?_
                      refine ws_l rfl rfl rfl rfl (rd_move rfl) ?_
                      refine ws_store rfl rfl rfl rfl (by first | exact .inl (by assumption) | exact .inr (by simp)) (fun _ h _ => by first | (cases h; done) | exact List.mem_cons_of_mem _ h | exact List.mem_cons_of_mem _ (List.mem_cons_of_mem _ h) | (simp at h ⊢; simp [h])) ?_
                      refine ws_l rfl rfl rfl rfl (rd_assign rfl) ?_
                      refine ws_l rfl rfl rfl rfl (rd_assign rfl) ?_
                      refine ws_nil ?_
                      refine qe_then ?_
                      refine wc_keep [(2, _), (3, _), (4, _)] rfl ?_
                      refine wc_ret ?_
                      refine qe_body _ (.inl rfl) (res3 rfl (RV.cell rfl) (RV.tmp rfl) (RV.tmp rfl)) ?_
                      exact ret_end fun w hp hn ho => by simp [rekR, rekK, rekN, rek1, rek0, idM, hs0, hs1, hs2, hs3, hs4, hs5, hs6, hs7, hn0]
  · intro hrest
    refine od_r ?_
    refine ws_r rfl rfl rfl rfl (rd_fieldAddr rfl) ?_
    refine od_go ?_
    refine od_r ?_
    refine ws_r rfl rfl rfl rfl (rd_load rfl) ?_
    refine od_go ?_
    refine od_r ?_
    refine ws_r rfl rfl rfl rfl (rd_rem (((m.id % 16 : UInt8).toNat : Nat) : Int) rfl rfl (by omega) (u8_rem m.id 16 (by omega))) ?_
    refine od_go ?_
    refine od_r ?_
    refine ws_r rfl rfl rfl rfl (rd_build rfl) ?_
    refine od_go ?_
    refine od_r ?_
    refine ws_r rfl rfl rfl rfl (rd_fieldAddr rfl) ?_
    refine od_go ?_
    refine od_r ?_
    refine ws_r rfl rfl rfl rfl (rd_load rfl) ?_
    refine od_go ?_
    refine od_r ?_
    refine ws_r rfl rfl rfl rfl (rd_fieldAddr rfl) ?_
    refine od_go ?_
    refine od_r ?_
    refine ws_r rfl rfl rfl rfl (rd_load rfl) ?_
    refine od_go ?_
    refine od_r ?_
    refine ws_r rfl rfl rfl rfl (rd_conv rfl (run_conv_int ((m.number.toNat : Nat) : Int) Tryz.underlying5 Tryz.underlying3 (wrap_i64 _ (by omega) (by have := m.number.toNat_lt; omega)))) ?_
    refine od_go ?_
    refine od_r ?_
    refine ws_r rfl rfl rfl rfl (rd_rem ((m.number.toNat % 3 : Nat) : Int) rfl rfl (by omega) (tmodN _ 3)) ?_
    refine od_go ?_
    refine od_r ?_
    refine ws_r rfl rfl rfl rfl (rd_fieldAddr rfl) ?_
    refine od_go ?_
    refine od_r ?_
    refine ws_r rfl rfl rfl rfl (rd_load rfl) ?_
    refine od_go ?_
    refine od_r ?_
    refine ws_r rfl rfl rfl rfl (rd_fieldAddr rfl) ?_
    refine od_go ?_
    refine od_r ?_
    refine ws_r rfl rfl rfl rfl (rd_load rfl) ?_
    refine od_go ?_
    refine od_b ?_ ?_
    ·
      refine ws_callp rfl rfl rfl rfl rfl (En.go) (fun w hp hn ho => public_ret m.first w) ?_
      refine od_go ?_
      refine od_b ?_ ?_
      ·
        refine ws_callp rfl rfl rfl rfl rfl (En.go) (fun w hp hn ho => of_ref _ w) ?_
        refine od_go ?_
        refine od_b ?_ ?_
        ·
          refine ws_callp rfl rfl rfl rfl rfl (En.go) (fun w hp hn ho => public_ret m.pub w) ?_
          refine od_go ?_
          refine od_b ?_ ?_
          ·
            refine ws_callp rfl rfl rfl rfl rfl (En.go) (fun w hp hn ho => public_ret m.new w) ?_
            refine od_go ?_
            refine od_seq ?_
            refine ws_r rfl rfl rfl rfl (rd_build rfl) ?_
            refine ws_alloc rfl rfl rfl ?_
            intro b5 hb5
            refine ws_late rfl ?_
            refine ws_store rfl rfl rfl rfl (by first | exact .inl (by assumption) | exact .inr (by simp)) (fun _ h _ => by first | (cases h; done) | exact List.mem_cons_of_mem _ h | exact List.mem_cons_of_mem _ (List.mem_cons_of_mem _ h) | (simp at h ⊢; simp [h])) ?_
            refine ws_nil ?_
            exact qe_sub (hrest b5 hb5) rfl
          ·
            refine ws_alloc rfl rfl rfl ?_
            intro b5 hb5
            refine od_go ?_
            refine od_seq ?_
            refine ws_callp rfl rfl rfl rfl rfl (En.go) (fun w hp hn ho => public_ret m.new w) ?_
            refine ws_late rfl ?_
            refine ws_l rfl rfl rfl rfl (rd_build rfl) ?_
            refine ws_store rfl rfl rfl rfl (by first | exact .inl (by assumption) | exact .inr (by simp)) (fun _ h _ => by first | (cases h; done) | exact List.mem_cons_of_mem _ h | exact List.mem_cons_of_mem _ (List.mem_cons_of_mem _ h) | (simp at h ⊢; simp [h])) ?_
            refine ws_nil ?_
            exact qe_sub (hrest b5 hb5) rfl
        ·
          refine ws_alloc rfl rfl rfl ?_
          intro b5 hb5
          refine od_go ?_
          refine od_seq ?_
          refine ws_callp rfl rfl rfl rfl rfl (En.go) (fun w hp hn ho => public_ret m.pub w) ?_
          refine ws_callp rfl rfl rfl rfl rfl (En.go) (fun w hp hn ho => public_ret m.new w) ?_
          refine ws_late rfl ?_
          refine ws_l rfl rfl rfl rfl (rd_build rfl) ?_
          refine ws_store rfl rfl rfl rfl (by first | exact .inl (by assumption) | exact .inr (by simp)) (fun _ h _ => by first | (cases h; done) | exact List.mem_cons_of_mem _ h | exact List.mem_cons_of_mem _ (List.mem_cons_of_mem _ h) | (simp at h ⊢; simp [h])) ?_
          refine ws_nil ?_
          exact qe_sub (hrest b5 hb5) rfl
      ·
        refine ws_alloc rfl rfl rfl ?_
        intro b5 hb5
        refine od_go ?_
        refine od_seq ?_
        refine ws_callp rfl rfl rfl rfl rfl (En.go) (fun w hp hn ho => of_ref _ w) ?_
        refine ws_callp rfl rfl rfl rfl rfl (En.go) (fun w hp hn ho => public_ret m.pub w) ?_
        refine ws_callp rfl rfl rfl rfl rfl (En.go) (fun w hp hn ho => public_ret m.new w) ?_
        refine ws_late rfl ?_
        refine ws_l rfl rfl rfl rfl (rd_build rfl) ?_
        refine ws_store rfl rfl rfl rfl (by first | exact .inl (by assumption) | exact .inr (by simp)) (fun _ h _ => by first | (cases h; done) | exact List.mem_cons_of_mem _ h | exact List.mem_cons_of_mem _ (List.mem_cons_of_mem _ h) | (simp at h ⊢; simp [h])) ?_
        refine ws_nil ?_
        exact qe_sub (hrest b5 hb5) rfl
    ·
      refine ws_alloc rfl rfl rfl ?_
      intro b5 hb5
      refine od_go ?_
      refine od_seq ?_
      refine ws_callp rfl rfl rfl rfl rfl (En.go) (fun w hp hn ho => public_ret m.first w) ?_
      refine ws_callp rfl rfl rfl rfl rfl (En.go) (fun w hp hn ho => of_ref _ w) ?_
      refine ws_callp rfl rfl rfl rfl rfl (En.go) (fun w hp hn ho => public_ret m.pub w) ?_
      refine ws_callp rfl rfl rfl rfl rfl (En.go) (fun w hp hn ho => public_ret m.new w) ?_
      refine ws_late rfl ?_
      refine ws_l rfl rfl rfl rfl (rd_build rfl) ?_
      refine ws_store rfl rfl rfl rfl (by first | exact .inl (by assumption) | exact .inr (by simp)) (fun _ h _ => by first | (cases h; done) | exact List.mem_cons_of_mem _ h | exact List.mem_cons_of_mem _ (List.mem_cons_of_mem _ h) | (simp at h ⊢; simp [h])) ?_
      refine ws_nil ?_
      exact qe_sub (hrest b5 hb5) rfl

end Go.Proofs.YtheioljidangkaaGreat
