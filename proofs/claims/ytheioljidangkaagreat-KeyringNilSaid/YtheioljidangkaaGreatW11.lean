/- Walks: the reference: compare, less, Fine, Has, end. No conditions. -/
import Derived.Test.YtheioljidangkaaGreatW10
namespace Go.Proofs.YtheioljidangkaaGreat
open Go Go.RowKit Go.Sx
set_option linter.unusedSimpArgs false
set_option linter.unusedVariables false

set_option maxRecDepth 100000 in
set_option maxHeartbeats 1000000 in
theorem compare_ref {b b' o o' n c c' : Nat} {cs cs' : Array Value} {E E' : TypeId} {fr fr' : Nat × Nat} {bs bs' : List UInt8} [hB : BytesAt cs o n bs] [hB' : BytesAt cs' o' n bs'] (hn0 : n < 1048576) (hne : b ≠ b') (w : World) (hη : HpOK [(b, .cells cs E fr), (b', .cells cs' E' fr')] w) : Ret Tryz.prog 34 [.slice (some ⟨b, o, none⟩) n c, .slice (some ⟨b', o', none⟩) n c'] w [] (fun v _ => ∃ z : Int, v = I z ∧ (z < 0 ↔ bs < bs')) := by
  have hlb := hB.len
  have hlb2 := hB'.len
  refine enter (n := 41) (args := [.slice (some ⟨b, o, none⟩) n c, .slice (some ⟨b', o', none⟩) n c']) [] [(b, .cells cs E fr), (b', .cells cs' E' fr')] Tryz.func34 rfl rfl rfl hη (by simp [hne]) ?_
  refine wc_seq ?_
  refine wc_plain [(0, .x true)] (by kernel_rfl) ?_
  refine ws_l rfl rfl rfl rfl (rd_assign rfl) ?_
  refine ws_nil ?_
  refine qe_then ?_
  refine wc_seq ?_
  refine wc_seq ?_
  refine wc_plain [(0, .x true)] (by kernel_rfl) ?_
  refine ws_l rfl rfl rfl rfl (rd_assign rfl) ?_
  refine ws_nil ?_
  refine qe_then ?_
  refine wc_block ?_
  refine wc_loop (fun mz ac w1 => ∃ (j : Nat), mz = n - j ∧ (j ≤ n) ∧ (bs.take j = bs'.take j) ∧ St 41 w [] [(0, .slice (some ⟨b, o, none⟩) n c), (1, .slice (some ⟨b', o', none⟩) n c'), (5, I j)] [(b, .cells cs E fr), (b', .cells cs' E' fr')] ac w1) _ (fun ac w1 hs => ⟨0, rfl, (by omega), (by simp), st_sub hs _ rfl⟩) ?_
  rintro _ ac1 wl1 ⟨j, rfl, hj, hf, hs1⟩
  refine wc_at hs1 ?_
  refine wc_seq ?_
  refine wc_seq ?_
  refine wc_plain [(0, .x true), (1, .x true), (2, .x true), (3, .x true), (4, .x true), (5, .x true), (6, .x true), (7, .x true), (8, .x true), (9, .x true)] (by kernel_rfl) ?_
  refine ws_l rfl rfl rfl rfl (rd_move rfl) ?_
  refine ws_l rfl rfl rfl rfl (rd_move rfl) ?_
  refine ws_l rfl rfl rfl rfl (rd_len rfl Tryz.underlying87) ?_
  refine ws_lcmp rfl rfl rfl (rfl) (rfl) (rfl) ?_ ?_
  · intro h9
    refine ws_l rfl rfl rfl rfl (rd_move rfl) ?_
    refine ws_l rfl rfl rfl rfl (rd_move rfl) ?_
    refine ws_l rfl rfl rfl rfl (rd_move rfl) ?_
    refine ws_l rfl rfl rfl rfl (rd_len rfl Tryz.underlying87) ?_
    refine ws_l rfl rfl rfl rfl (rd_cmp_t rfl rfl rfl (by simp only [cmpP] at h9 ⊢; omega)) ?_
    refine ws_l rfl rfl rfl rfl (rd_pick_t rfl rfl) ?_
    refine ws_nil ?_
    refine qe_then ?_
    refine wc_true rfl ?_
    refine wc_skip ?_
    refine qe_then ?_
    refine wc_seq ?_
    refine wc_block ?_
    refine wc_seq ?_
    refine wc_seq ?_
    refine wc_drawn mixedT _ (fun _ h => h) [(0, .r), (1, .r), (2, .r), (3, .r), (4, .r), (5, .r), (6, .r), (7, .r), (8, .x true)] (by kernel_rfl) ?_
    have hjn : j < n := by simp only [cmpP] at h9; omega
    have ata : GetAt cs (o + j) (u8v (bg bs j)) := b_get hB hjn
    have atb : GetAt cs' (o' + j) (u8v (bg bs' j)) := b_get hB' hjn
    refine ws_r rfl rfl rfl rfl (rd_move rfl) ?_
    refine ws_r rfl rfl rfl rfl (rd_move rfl) ?_
    refine ws_r rfl rfl rfl rfl (rd_index (o + j) rfl rfl Tryz.underlying87 Tryz.sizeOf5 ⟨by omega, by omega⟩ (by rw [Int.toNat_natCast, Nat.mul_one])) ?_
    refine ws_r rfl rfl rfl rfl (rd_load rfl) ?_
    refine ws_r rfl rfl rfl rfl (rd_move rfl) ?_
    refine ws_r rfl rfl rfl rfl (rd_move rfl) ?_
    refine ws_r rfl rfl rfl rfl (rd_index (o' + j) rfl rfl Tryz.underlying87 Tryz.sizeOf5 ⟨by omega, by omega⟩ (by rw [Int.toNat_natCast, Nat.mul_one])) ?_
    refine ws_r rfl rfl rfl rfl (rd_load rfl) ?_
    refine ws_late rfl ?_
    refine ws_lcmp rfl rfl rfl (rfl) (rfl) (rfl) ?_ ?_
    · intro h26
      simp only [cmpP] at h26; rw [u8_lt] at h26
      refine ws_nil ?_
      refine qe_then ?_
      refine wc_true rfl ?_
      refine wc_seq ?_
      refine wc_plain [(0, .x true)] (by kernel_rfl) ?_
      refine ws_l rfl rfl rfl rfl (rd_assign rfl) ?_
      refine ws_nil ?_
      refine qe_then ?_
      refine wc_ret ?_
      refine qe_then_ret ?_
      refine qe_block_ret ?_
      refine qe_then_ret ?_
      refine qe_then_ret ?_
      refine qe_block_ret ?_
      refine qe_then_ret ?_
      refine qe_body _ (.inl rfl) (res1 rfl (RV.tmp rfl)) ?_
      exact ret_end fun w hp hn ho => ⟨_, rfl, ⟨fun _ => lt_at hf (bg_at (by omega)) (bg_at (by omega)) h26, fun _ => by omega⟩⟩
    · intro h26
      simp only [cmpP] at h26; rw [u8_lt] at h26
      refine ws_nil ?_
      refine qe_then ?_
      refine wc_false rfl ?_
      refine wc_skip ?_
      refine qe_then ?_
      refine wc_seq ?_
      refine wc_drawn mixedT _ (fun _ h => h) [(0, .r), (1, .r), (2, .r), (3, .r), (4, .r), (5, .r), (6, .r), (7, .r), (8, .x true)] (by kernel_rfl) ?_
      refine ws_r rfl rfl rfl rfl (rd_move rfl) ?_
      refine ws_r rfl rfl rfl rfl (rd_move rfl) ?_
      refine ws_r rfl rfl rfl rfl (rd_index (o + j) rfl rfl Tryz.underlying87 Tryz.sizeOf5 ⟨by omega, by omega⟩ (by rw [Int.toNat_natCast, Nat.mul_one])) ?_
      refine ws_r rfl rfl rfl rfl (rd_load rfl) ?_
      refine ws_r rfl rfl rfl rfl (rd_move rfl) ?_
      refine ws_r rfl rfl rfl rfl (rd_move rfl) ?_
      refine ws_r rfl rfl rfl rfl (rd_index (o' + j) rfl rfl Tryz.underlying87 Tryz.sizeOf5 ⟨by omega, by omega⟩ (by rw [Int.toNat_natCast, Nat.mul_one])) ?_
      refine ws_r rfl rfl rfl rfl (rd_load rfl) ?_
      refine ws_late rfl ?_
      refine ws_lcmp rfl rfl rfl (rfl) (rfl) (rfl) ?_ ?_
      · intro h35
        simp only [cmpP] at h35; rw [u8_lt] at h35
        refine ws_nil ?_
        refine qe_then ?_
        refine wc_true rfl ?_
        refine wc_seq ?_
        refine wc_plain [(0, .x true)] (by kernel_rfl) ?_
        refine ws_l rfl rfl rfl rfl (rd_assign rfl) ?_
        refine ws_nil ?_
        refine qe_then ?_
        refine wc_ret ?_
        refine qe_block_ret ?_
        refine qe_then_ret ?_
        refine qe_then_ret ?_
        refine qe_block_ret ?_
        refine qe_then_ret ?_
        refine qe_body _ (.inl rfl) (res1 rfl (RV.tmp rfl)) ?_
        exact ret_end fun w hp hn ho => ⟨_, rfl, ⟨fun h => by omega, fun h => absurd (List.lt_trans h (lt_at hf.symm (bg_at (by omega)) (bg_at (by omega)) h35)) (List.lt_irrefl _)⟩⟩
      · intro h35
        simp only [cmpP] at h35; rw [u8_lt] at h35
        refine ws_nil ?_
        refine qe_then ?_
        refine wc_false rfl ?_
        refine wc_skip ?_
        refine qe_block ?_
        refine qe_then ?_
        refine wc_plain [(0, .x true), (1, .x true), (2, .x true)] (by kernel_rfl) ?_
        refine ws_l rfl rfl rfl rfl (rd_move rfl) ?_
        refine ws_l rfl rfl rfl rfl (rd_arith (((j + 1 : Nat) : Nat) : Int) rfl rfl rfl (by rw [wrap_i64 _ (by omega) (by omega)]; omega)) ?_
        refine ws_l rfl rfl rfl rfl (rd_assign rfl) ?_
        refine ws_nil ?_
        exact qe_loop fun ac2 w2 hs2 => ⟨_, by omega, j + 1, rfl, (by omega), (by rw [take_at (bg_at (bs := bs) (by omega)), take_at (bg_at (bs := bs') (by omega)), hf, UInt8.le_antisymm (UInt8.not_lt.1 h35) (UInt8.not_lt.1 h26)]), st_sub hs2 _ rfl⟩
  · intro h9
    refine ws_l rfl rfl rfl rfl (rd_move rfl) ?_
    refine ws_xskip rfl rfl rfl rfl ?_
    refine ws_xskip rfl rfl rfl rfl ?_
    refine ws_xskip rfl rfl rfl rfl ?_
    refine ws_xskip rfl rfl rfl rfl ?_
    refine ws_l rfl rfl rfl rfl (rd_pick_f rfl rfl) ?_
    refine ws_nil ?_
    refine qe_then ?_
    refine wc_false rfl ?_
    refine wc_exit ?_
    refine qe_then_exit ?_
    refine qe_then_exit ?_
    refine qe_block_exit ?_
    refine qe_then ?_
    refine wc_keep [(0, _), (1, _)] rfl ?_
    refine wc_seq ?_
    refine wc_plain [(0, .x true), (1, .x true), (2, .x true), (3, .x true), (4, .x true), (5, .x true)] (by kernel_rfl) ?_
    refine ws_l rfl rfl rfl rfl (rd_move rfl) ?_
    refine ws_l rfl rfl rfl rfl (rd_len rfl Tryz.underlying87) ?_
    refine ws_l rfl rfl rfl rfl (rd_move rfl) ?_
    refine ws_l rfl rfl rfl rfl (rd_len rfl Tryz.underlying87) ?_
    refine ws_l rfl rfl rfl rfl (rd_arith (((n - n : Nat) : Nat) : Int) rfl rfl rfl (by rw [wrap_i64 _ (by omega) (by omega)]; omega)) ?_
    refine ws_l rfl rfl rfl rfl (rd_assign rfl) ?_
    refine ws_nil ?_
    refine qe_then ?_
    refine wc_keep [(4, _)] rfl ?_
    refine wc_ret ?_
    refine qe_body _ (.inl rfl) (res1 rfl (RV.tmp rfl)) ?_
    exact ret_end fun w hp hn ho => ⟨_, rfl, ⟨fun h => by omega, fun h => by simp only [cmpP] at h9; rw [List.take_of_length_le (by omega), List.take_of_length_le (by omega)] at hf; rw [hf] at h; exact absurd h (List.lt_irrefl _)⟩⟩
set_option maxRecDepth 100000 in
set_option maxHeartbeats 1000000 in
theorem less_ref (a b : Pub) (w : World) : Ret Tryz.prog 28 [pubK a, pubK b] w [] (fun v _ => v = .bool (decide (pubLt a b))) := by
  refine enter (n := 25) (args := [pubK a, pubK b]) [] [] Tryz.func28 rfl rfl rfl (HpOK.nil w) (by simp) ?_
  refine wc_seq ?_
  refine wc_plain [(0, .x true), (1, .x true), (2, .x true)] (by kernel_rfl) ?_
  refine ws_box rfl rfl rfl rfl ?_
  intro b2 hb2
  refine ws_box rfl rfl rfl rfl ?_
  intro b3 hb3
  refine ws_l rfl rfl rfl rfl (rd_assign rfl) ?_
  refine ws_nil ?_
  refine qe_then ?_
  refine wc_seq ?_
  refine wc_drawn mixedT _ (fun _ h => h) [(0, .r), (1, .r), (2, .r), (3, .r), (4, .r), (5, .r), (6, .r), (7, .r), (8, .r), (9, .r), (10, .r), (11, .r), (12, .r), (13, .r), (14, .r), (15, .r), (16, .x true), (17, .x true), (18, .x true), (19, .x true), (20, .x true)] (by kernel_rfl) ?_
  refine ws_r rfl rfl rfl rfl (rd_fieldAddr rfl) ?_
  refine ws_r rfl rfl rfl rfl (rd_load rfl) ?_
  refine ws_r rfl rfl rfl rfl (rd_fieldAddr rfl) ?_
  refine ws_r rfl rfl rfl rfl (rd_load rfl) ?_
  refine ws_rcmp rfl rfl rfl (rfl) (rfl) (rfl) ?_ ?_
  · intro h9
    refine ws_r rfl rfl rfl rfl (rd_move rfl) ?_
    refine ws_rskip rfl rfl rfl rfl ?_
    refine ws_rskip rfl rfl rfl rfl ?_
    refine ws_rskip rfl rfl rfl rfl ?_
    refine ws_rskip rfl rfl rfl rfl ?_
    refine ws_rskip rfl rfl rfl rfl ?_
    refine ws_rskip rfl rfl rfl rfl ?_
    refine ws_rskip rfl rfl rfl rfl ?_
    refine ws_rskip rfl rfl rfl rfl ?_
    refine ws_rskip rfl rfl rfl rfl ?_
    refine ws_rskip rfl rfl rfl rfl ?_
    refine ws_late rfl ?_
    refine ws_xskip rfl rfl rfl rfl ?_
    refine ws_xskip rfl rfl rfl rfl ?_
    refine ws_xskip rfl rfl rfl rfl ?_
    refine ws_l rfl rfl rfl rfl (rd_pick_t rfl rfl) ?_
    refine ws_l rfl rfl rfl rfl (rd_assign rfl) ?_
    refine ws_nil ?_
    refine qe_then ?_
    refine wc_keep [(4, _)] rfl ?_
    refine wc_ret ?_
    refine qe_body _ (.inl rfl) (res1 rfl (RV.tmp rfl)) ?_
    exact ret_end fun w hp hn ho => by (try simp only [cmpP, ne_eq, Decidable.not_not] at *); (try simp only [decide_eq_true_eq, decide_eq_false_iff_not] at *); first | exact bt (by simp only [numLt];  grind) | exact bf (by simp only [numLt];  grind)
  · intro h9
    refine ws_r rfl rfl rfl rfl (rd_move rfl) ?_
    refine ws_r rfl rfl rfl rfl (rd_fieldAddr rfl) ?_
    refine ws_r rfl rfl rfl rfl (rd_load rfl) ?_
    refine ws_r rfl rfl rfl rfl (rd_fieldAddr rfl) ?_
    refine ws_r rfl rfl rfl rfl (rd_load rfl) ?_
    refine ws_rcmp rfl rfl rfl (rfl) (rfl) (rfl) ?_ ?_
    · intro h15
      refine ws_r rfl rfl rfl rfl (rd_move rfl) ?_
      refine ws_r rfl rfl rfl rfl (rd_fieldAddr rfl) ?_
      refine ws_r rfl rfl rfl rfl (rd_sliceArr rfl Tryz.underlying28 rfl Tryz.sizeOf5) ?_
      refine ws_r rfl rfl rfl rfl (rd_fieldAddr rfl) ?_
      refine ws_r rfl rfl rfl rfl (rd_sliceArr rfl Tryz.underlying28 rfl Tryz.sizeOf5) ?_
      refine ws_late rfl ?_
      refine ws_call rfl rfl rfl rfl rfl (En.go) (fun w hp hn ho => compare_ref (b := b2) (b' := b3) (cs := pubC a) (cs' := pubC b) (E := 31) (E' := 31) (fr := (0, 0)) (fr' := (0, 0)) (by omega) (fun e => by subst e; simp at hn) w (hp.mono (by simp))) (fun _ h => by cases h) (fun hh q h => by first | (cases h; done) | exact hh q h) ?_
      rintro v21 wa wb hpo hon hon2 hp1 ⟨z, rfl, hz⟩
      refine ⟨[], HpOK.nil _, by simp, by simp, ?_⟩
      refine ws_lcmp rfl rfl rfl (rfl) (rfl) (rfl) ?_ ?_
      · intro h22
        simp only [cmpP] at h22; rw [hz] at h22
        refine ws_l rfl rfl rfl rfl (rd_pick_t rfl rfl) ?_
        refine ws_l rfl rfl rfl rfl (rd_pick_f rfl rfl) ?_
        refine ws_l rfl rfl rfl rfl (rd_assign rfl) ?_
        refine ws_nil ?_
        refine qe_then ?_
        refine wc_keep [(4, _)] rfl ?_
        refine wc_ret ?_
        refine qe_body _ (.inl rfl) (res1 rfl (RV.tmp rfl)) ?_
        exact ret_end fun w hp hn ho => by (try simp only [cmpP, ne_eq, Decidable.not_not] at *); (try simp only [decide_eq_true_eq, decide_eq_false_iff_not] at *); first | exact bt (by simp only [numLt];  grind) | exact bf (by simp only [numLt];  grind)
      · intro h22
        simp only [cmpP] at h22; rw [hz] at h22
        refine ws_l rfl rfl rfl rfl (rd_pick_t rfl rfl) ?_
        refine ws_l rfl rfl rfl rfl (rd_pick_f rfl rfl) ?_
        refine ws_l rfl rfl rfl rfl (rd_assign rfl) ?_
        refine ws_nil ?_
        refine qe_then ?_
        refine wc_keep [(4, _)] rfl ?_
        refine wc_ret ?_
        refine qe_body _ (.inl rfl) (res1 rfl (RV.tmp rfl)) ?_
        exact ret_end fun w hp hn ho => by (try simp only [cmpP, ne_eq, Decidable.not_not] at *); (try simp only [decide_eq_true_eq, decide_eq_false_iff_not] at *); first | exact bt (by simp only [numLt];  grind) | exact bf (by simp only [numLt];  grind)
    · intro h15
      refine ws_r rfl rfl rfl rfl (rd_move rfl) ?_
      refine ws_rskip rfl rfl rfl rfl ?_
      refine ws_rskip rfl rfl rfl rfl ?_
      refine ws_rskip rfl rfl rfl rfl ?_
      refine ws_rskip rfl rfl rfl rfl ?_
      refine ws_late rfl ?_
      refine ws_xskip rfl rfl rfl rfl ?_
      refine ws_xskip rfl rfl rfl rfl ?_
      refine ws_l rfl rfl rfl rfl (rd_pick_f rfl rfl) ?_
      refine ws_l rfl rfl rfl rfl (rd_pick_f rfl rfl) ?_
      refine ws_l rfl rfl rfl rfl (rd_assign rfl) ?_
      refine ws_nil ?_
      refine qe_then ?_
      refine wc_keep [(4, _)] rfl ?_
      refine wc_ret ?_
      refine qe_body _ (.inl rfl) (res1 rfl (RV.tmp rfl)) ?_
      exact ret_end fun w hp hn ho => by (try simp only [cmpP, ne_eq, Decidable.not_not] at *); (try simp only [decide_eq_true_eq, decide_eq_false_iff_not] at *); first | exact bt (by simp only [numLt];  grind) | exact bf (by simp only [numLt];  grind)
set_option maxRecDepth 100000 in
set_option maxHeartbeats 1000000 in
theorem fine_ref (p : Pub) (w : World) : Ret Tryz.prog 60 [pubK p] w [] (fun v _ => v = .bool (decide (fineB p))) := by
  refine enter (n := 11) (args := [pubK p]) [] [] Tryz.func60 rfl rfl rfl (HpOK.nil w) (by simp) ?_
  refine wc_seq ?_
  refine wc_plain [(0, .x true), (1, .x true)] (by kernel_rfl) ?_
  refine ws_box rfl rfl rfl rfl ?_
  intro b1 hb1
  refine ws_l rfl rfl rfl rfl (rd_assign rfl) ?_
  refine ws_nil ?_
  refine qe_then ?_
  refine wc_seq ?_
  refine wc_plain [(0, .x true), (1, .x true), (2, .x true), (3, .x true), (4, .x true), (5, .x true), (6, .x true), (7, .x true), (8, .x true)] (by kernel_rfl) ?_
  refine ws_l rfl rfl rfl rfl (rd_fieldAddr rfl) ?_
  refine ws_l rfl rfl rfl rfl (rd_load rfl) ?_
  refine ws_lcmp rfl rfl rfl (rfl) (rfl) (rfl) ?_ ?_
  · intro h5
    refine ws_l rfl rfl rfl rfl (rd_move rfl) ?_
    refine ws_l rfl rfl rfl rfl (rd_fieldAddr rfl) ?_
    refine ws_l rfl rfl rfl rfl (rd_load rfl) ?_
    refine ws_lcmp rfl rfl rfl (rfl) (rfl) (rfl) ?_ ?_
    · intro h9
      refine ws_l rfl rfl rfl rfl (rd_pick_t rfl rfl) ?_
      refine ws_l rfl rfl rfl rfl (rd_assign rfl) ?_
      refine ws_nil ?_
      refine qe_then ?_
      refine wc_keep [(2, _)] rfl ?_
      refine wc_ret ?_
      refine qe_body _ (.inl rfl) (res1 rfl (RV.tmp rfl)) ?_
      exact ret_end fun w hp hn ho => by (try simp only [cmpP, ne_eq, Decidable.not_not] at *); (try simp only [decide_eq_true_eq, decide_eq_false_iff_not] at *); first | exact bt (by simp only [fineB];  grind) | exact bf (by simp only [fineB];  grind)
    · intro h9
      refine ws_l rfl rfl rfl rfl (rd_pick_t rfl rfl) ?_
      refine ws_l rfl rfl rfl rfl (rd_assign rfl) ?_
      refine ws_nil ?_
      refine qe_then ?_
      refine wc_keep [(2, _)] rfl ?_
      refine wc_ret ?_
      refine qe_body _ (.inl rfl) (res1 rfl (RV.tmp rfl)) ?_
      exact ret_end fun w hp hn ho => by (try simp only [cmpP, ne_eq, Decidable.not_not] at *); (try simp only [decide_eq_true_eq, decide_eq_false_iff_not] at *); first | exact bt (by simp only [fineB];  grind) | exact bf (by simp only [fineB];  grind)
  · intro h5
    refine ws_l rfl rfl rfl rfl (rd_move rfl) ?_
    refine ws_xskip rfl rfl rfl rfl ?_
    refine ws_xskip rfl rfl rfl rfl ?_
    refine ws_xskip rfl rfl rfl rfl ?_
    refine ws_l rfl rfl rfl rfl (rd_pick_f rfl rfl) ?_
    refine ws_l rfl rfl rfl rfl (rd_assign rfl) ?_
    refine ws_nil ?_
    refine qe_then ?_
    refine wc_keep [(2, _)] rfl ?_
    refine wc_ret ?_
    refine qe_body _ (.inl rfl) (res1 rfl (RV.tmp rfl)) ?_
    exact ret_end fun w hp hn ho => by (try simp only [cmpP, ne_eq, Decidable.not_not] at *); (try simp only [decide_eq_true_eq, decide_eq_false_iff_not] at *); first | exact bt (by simp only [fineB];  grind) | exact bf (by simp only [fineB];  grind)
set_option maxRecDepth 100000 in
set_option maxHeartbeats 1000000 in
theorem has_ref (v : Value) (φ : Heap) (l : List RK) (hsrc : Src φ v 84 l.length (l.flatMap rkL)) (hlen : l.length < 1048576) (id : Id) (w : World) (hφ : HpOK φ w) (hnd : (φ.map Prod.fst).Nodup) : Ret Tryz.prog 61 [v, idK id] w [] (fun u _ => u = .bool (decide (∃ r ∈ l, r.id = id))) := by
  refine enter (n := 19) (args := [v, idK id]) [] φ Tryz.func61 rfl rfl rfl hφ hnd ?_
  refine wc_seq ?_
  refine wc_plain [(0, .x true), (1, .x true)] (by kernel_rfl) ?_
  refine ws_box rfl rfl rfl rfl ?_
  intro b3 hb3
  refine ws_l rfl rfl rfl rfl (rd_assign rfl) ?_
  refine ws_nil ?_
  refine qe_then ?_
  refine wc_seq ?_
  refine wc_seq ?_
  refine wc_plain [(0, .x true)] (by kernel_rfl) ?_
  refine ws_l rfl rfl rfl rfl (rd_assign rfl) ?_
  refine ws_nil ?_
  refine qe_then ?_
  refine wc_block ?_
  refine wc_loop (fun mz ac w1 => ∃ (j : Nat), mz = l.length - j ∧ (j ≤ l.length) ∧ (∀ r ∈ l.take j, r.id ≠ id) ∧ St 19 w [] [(0, v), (3, ptr b3), (5, I j)] ((b3, .cells (idC id) 36 (0, 0)) :: φ) ac w1) _ (fun ac w1 hs => ⟨0, rfl, (by omega), (by simp), st_sub hs _ rfl⟩) ?_
  rintro _ ac1 wl1 ⟨j, rfl, hj, hf, hs1⟩
  refine wc_at hs1 ?_
  refine wc_seq ?_
  refine wc_seq ?_
  refine wc_plain [(0, .x true), (1, .x true), (2, .x true), (3, .x true)] (by kernel_rfl) ?_
  refine ws_l rfl rfl rfl rfl (rd_move rfl) ?_
  refine ws_l rfl rfl rfl rfl (rd_move rfl) ?_
  refine ws_l rfl rfl rfl rfl (rd_lenS hsrc rfl Tryz.underlying25) ?_
  refine ws_lcmp rfl rfl rfl (rfl) (rfl) (rfl) ?_ ?_
  · intro h9
    refine ws_nil ?_
    refine qe_then ?_
    refine wc_true rfl ?_
    refine wc_skip ?_
    refine qe_then ?_
    refine wc_seq ?_
    refine wc_block ?_
    refine wc_seq ?_
    refine wc_drawn mixedT _ (fun _ h => h) [(0, .r), (1, .r), (2, .r), (3, .r), (4, .r), (5, .r), (6, .x true)] (by kernel_rfl) ?_
    refine ws_r rfl rfl rfl rfl (rd_move rfl) ?_
    refine ws_r rfl rfl rfl rfl (rd_move rfl) ?_
    have hjl : j < l.length := by simp only [cmpP] at h9; omega
    obtain ⟨bg, og, cg, csg, Eg, frg, rfl, hmg, hcg⟩ := Src.opened hsrc (by omega)
    have hmig : HM bg (.cells csg Eg frg) φ := ⟨hmg⟩
    obtain ⟨x, hx⟩ := at_ex (l := l) (j := j) (by omega)
    have atx : AtR csg (og + j * 84) x := at_rk hcg hx
    refine ws_r rfl rfl rfl rfl (rd_index (og + j * 84) rfl rfl Tryz.underlying25 Tryz.sizeOf53 ⟨by omega, by omega⟩ (by simp)) ?_
    refine ws_r rfl rfl rfl rfl (rd_fieldAddr rfl) ?_
    refine ws_r rfl rfl rfl rfl (rd_load rfl) ?_
    refine ws_r rfl rfl rfl rfl (rd_load rfl) ?_
    refine ws_late rfl ?_
    refine ws_lp _ rfl rfl rfl rfl (rd_eqid rfl rfl Tryz.underlying36 (by kernel_rfl)) ?_ ?_
    · intro h18
      refine ws_nil ?_
      refine qe_then ?_
      refine wc_true rfl ?_
      refine wc_seq ?_
      refine wc_plain [(0, .x true)] (by kernel_rfl) ?_
      refine ws_l rfl rfl rfl rfl (rd_assign rfl) ?_
      refine ws_nil ?_
      refine qe_then ?_
      refine wc_ret ?_
      refine qe_block_ret ?_
      refine qe_then_ret ?_
      refine qe_then_ret ?_
      refine qe_block_ret ?_
      refine qe_then_ret ?_
      refine qe_body _ (.inl rfl) (res1 rfl (RV.tmp rfl)) ?_
      exact ret_end fun w hp hn ho => bt ⟨x, List.mem_of_getElem? hx, h18⟩
    · intro h18
      refine ws_nil ?_
      refine qe_then ?_
      refine wc_false rfl ?_
      refine wc_skip ?_
      refine qe_block ?_
      refine qe_then ?_
      refine wc_plain [(0, .x true), (1, .x true), (2, .x true)] (by kernel_rfl) ?_
      refine ws_l rfl rfl rfl rfl (rd_move rfl) ?_
      refine ws_l rfl rfl rfl rfl (rd_arith (((j + 1 : Nat) : Nat) : Int) rfl rfl rfl (by rw [wrap_i64 _ (by omega) (by omega)]; omega)) ?_
      refine ws_l rfl rfl rfl rfl (rd_assign rfl) ?_
      refine ws_nil ?_
      exact qe_loop fun ac2 w2 hs2 => ⟨_, by (simp only [cmpP] at h9; omega), j + 1, rfl, (by simp only [cmpP] at h9; omega), (by rw [take_at hx]; intro r hr; rcases List.mem_append.1 hr with hr | hr; exact hf r hr; rw [List.mem_singleton.1 hr]; exact h18), st_sub hs2 _ rfl⟩
  · intro h9
    refine ws_nil ?_
    refine qe_then ?_
    refine wc_false rfl ?_
    refine wc_exit ?_
    refine qe_then_exit ?_
    refine qe_then_exit ?_
    refine qe_block_exit ?_
    refine qe_then ?_
    refine wc_keep [] rfl ?_
    refine wc_seq ?_
    refine wc_plain [(0, .x true)] (by kernel_rfl) ?_
    refine ws_l rfl rfl rfl rfl (rd_assign rfl) ?_
    refine ws_nil ?_
    refine qe_then ?_
    refine wc_ret ?_
    refine qe_body _ (.inl rfl) (res1 rfl (RV.tmp rfl)) ?_
    exact ret_end fun w hp hn ho => by rw [List.take_of_length_le (by simp only [cmpP] at h9; omega)] at hf; exact bf (fun ⟨r, hr, he⟩ => hf r hr he)
theorem atPl_skip {l : List RK} {r : RK} {x : Pl} (h : plOf r ≠ x) : atPl (l ++ [r]) x = atPl l x := by simp [atPl, List.filter_append, h]
theorem ne_of_nd {b b' : Nat} {o o' : Obj} {η : Heap} (hn : (((b, o) :: η).map Prod.fst).Nodup) (hm : (b', o') ∈ η) : b ≠ b' := fun e => by
  subst e
  exact (List.nodup_cons.1 hn).1 (List.mem_map.2 ⟨_, hm, rfl⟩)
theorem atPl_hit {l : List RK} {r : RK} {x : Pl} (h : plOf r = x) : atPl (l ++ [r]) x = atPl l x ++ [r] := by simp [atPl, List.filter_append, h]
set_option maxRecDepth 100000 in
set_option maxHeartbeats 4000000 in
theorem end_ref (v : Value) (φ : Heap) (l : List RK) (hsrc : Src φ v 84 l.length (l.flatMap rkL)) (hlen : l.length < 1048576) (a : Au) (n : Int) (p : Pub) (w : World) (hφ : HpOK φ w) (hnd : (φ.map Prod.fst).Nodup) : Ret Tryz.prog 29 [v, idK a, I n, pubK p] w [] (fun u _ => ∃ i : Int, u = I i ∧ ((endF l ⟨a, n, p⟩ = none ∧ i = -1) ∨ ∃ (k : Nat) (r : RK), i = k ∧ l[k]? = some r ∧ endF l ⟨a, n, p⟩ = some r)) := by
  refine enter (n := 73) (args := [v, idK a, I n, pubK p]) [] φ Tryz.func29 rfl rfl rfl hφ hnd ?_
  refine wc_seq ?_
  refine wc_plain [(0, .x true), (1, .x true), (2, .x true)] (by kernel_rfl) ?_
  refine ws_box rfl rfl rfl rfl ?_
  intro b5 hb5
  refine ws_box rfl rfl rfl rfl ?_
  intro b7 hb7
  refine ws_l rfl rfl rfl rfl (rd_assign rfl) ?_
  refine ws_nil ?_
  refine qe_then ?_
  refine wc_seq ?_
  refine wc_plain [(0, .x true)] (by kernel_rfl) ?_
  refine ws_l rfl rfl rfl rfl (rd_assign rfl) ?_
  refine ws_nil ?_
  refine qe_then ?_
  refine wc_seq ?_
  refine wc_seq ?_
  refine wc_plain [(0, .x true)] (by kernel_rfl) ?_
  refine ws_l rfl rfl rfl rfl (rd_assign rfl) ?_
  refine ws_nil ?_
  refine qe_then ?_
  refine wc_block ?_
  refine wc_loop (fun mz ac w1 => ∃ (j : Nat) (z : Int), mz = l.length - j ∧ (j ≤ l.length) ∧ ((minOf rkLt (atPl (l.take j) ⟨a, n, p⟩) = none ∧ z = -1) ∨ ∃ (k : Nat) (r : RK), z = k ∧ k < j ∧ l[k]? = some r ∧ minOf rkLt (atPl (l.take j) ⟨a, n, p⟩) = some r) ∧ St 73 w [] [(0, v), (2, I n), (5, ptr b5), (7, ptr b7), (9, I z), (10, I j)] ((b7, .cells (pubC p) 31 (0, 0)) :: (b5, .cells (idC a) 28 (0, 0)) :: φ) ac w1) _ (fun ac w1 hs => ⟨0, -1, rfl, (by omega), (.inl ⟨rfl, rfl⟩), st_sub hs _ rfl⟩) ?_
  rintro _ ac1 wl1 ⟨j, z, rfl, hj, hb, hs1⟩
  refine wc_at hs1 ?_
  refine wc_seq ?_
  refine wc_seq ?_
  refine wc_plain [(0, .x true), (1, .x true), (2, .x true), (3, .x true)] (by kernel_rfl) ?_
  refine ws_l rfl rfl rfl rfl (rd_move rfl) ?_
  refine ws_l rfl rfl rfl rfl (rd_move rfl) ?_
  refine ws_l rfl rfl rfl rfl (rd_lenS hsrc rfl Tryz.underlying25) ?_
  refine ws_lcmp rfl rfl rfl (rfl) (rfl) (rfl) ?_ ?_
  · intro h15
    refine ws_nil ?_
    refine qe_then ?_
    refine wc_true rfl ?_
    refine wc_skip ?_
    refine qe_then ?_
    refine wc_seq ?_
    refine wc_block ?_
    refine wc_seq ?_
    refine wc_plain [(0, .x true), (1, .x true), (2, .x true), (3, .x true), (4, .x true), (5, .x true)] (by kernel_rfl) ?_
    refine ws_l rfl rfl rfl rfl (rd_move rfl) ?_
    refine ws_l rfl rfl rfl rfl (rd_move rfl) ?_
    have hjl : j < l.length := by simp only [cmpP] at h15; omega
    obtain ⟨bg, og, cg, csg, Eg, frg, rfl, hmg, hcg⟩ := Src.opened hsrc (by omega)
    have hmig : HM bg (.cells csg Eg frg) φ := ⟨hmg⟩
    obtain ⟨x, hx⟩ := at_ex (l := l) (j := j) (by omega)
    have atx : AtR csg (og + j * 84) x := at_rk hcg hx
    refine ws_l rfl rfl rfl rfl (rd_index (og + j * 84) rfl rfl Tryz.underlying25 Tryz.sizeOf53 ⟨by omega, by omega⟩ (by simp)) ?_
    refine ws_l rfl rfl rfl rfl (rd_load rfl) ?_
    refine ws_alloc rfl rfl rfl ?_
    intro b11 hb11
    refine ws_store rfl rfl rfl rfl (by first | exact .inl (by assumption) | exact .inr (by simp)) (fun _ h _ => by first | (cases h; done) | exact List.mem_cons_of_mem _ h | exact List.mem_cons_of_mem _ (List.mem_cons_of_mem _ h) | (simp at h ⊢; simp [h])) ?_
    refine ws_nil ?_
    refine qe_then ?_
    refine wc_seq ?_
    refine wc_seq ?_
    refine wc_plain [(0, .x true), (1, .x true), (2, .x true), (3, .x true), (4, .x true), (5, .x true), (6, .x true), (7, .x true), (8, .x true), (9, .x true), (10, .x true), (11, .x true), (12, .x true), (13, .x true), (14, .x true), (15, .x true)] (by kernel_rfl) ?_
    refine ws_l rfl rfl rfl rfl (rd_fieldAddr rfl) ?_
    refine ws_l rfl rfl rfl rfl (rd_load rfl) ?_
    refine ws_l rfl rfl rfl rfl (rd_load rfl) ?_
    refine ws_lp _ rfl rfl rfl rfl (rd_neid rfl rfl Tryz.underlying28 (by kernel_rfl)) ?_ ?_
    · intro h25
      refine ws_l rfl rfl rfl rfl (rd_move rfl) ?_
      refine ws_xskip rfl rfl rfl rfl ?_
      refine ws_xskip rfl rfl rfl rfl ?_
      refine ws_xskip rfl rfl rfl rfl ?_
      refine ws_xskip rfl rfl rfl rfl ?_
      refine ws_l rfl rfl rfl rfl (rd_pick_t rfl rfl) ?_
      refine ws_l rfl rfl rfl rfl (rd_move rfl) ?_
      refine ws_xskip rfl rfl rfl rfl ?_
      refine ws_xskip rfl rfl rfl rfl ?_
      refine ws_xskip rfl rfl rfl rfl ?_
      refine ws_xskip rfl rfl rfl rfl ?_
      refine ws_l rfl rfl rfl rfl (rd_pick_t rfl rfl) ?_
      refine ws_nil ?_
      refine qe_then ?_
      refine wc_true rfl ?_
      refine wc_exit ?_
      refine qe_then_exit ?_
      refine qe_block_exit ?_
      refine qe_then ?_
      refine wc_plain [(0, .x true), (1, .x true), (2, .x true)] (by kernel_rfl) ?_
      refine ws_l rfl rfl rfl rfl (rd_move rfl) ?_
      refine ws_l rfl rfl rfl rfl (rd_arith (((j + 1 : Nat) : Nat) : Int) rfl rfl rfl (by rw [wrap_i64 _ (by omega) (by omega)]; omega)) ?_
      refine ws_l rfl rfl rfl rfl (rd_assign rfl) ?_
      refine ws_nil ?_
      exact qe_loop fun ac2 w2 hs2 => ⟨_, by (simp only [cmpP] at h15; omega), j + 1, z, rfl, (by simp only [cmpP] at h15; omega), (by rw [take_at hx, atPl_skip (by simp only [plOf, Pl.mk.injEq]; (try simp only [cmpP, ne_eq, Decidable.not_not] at *); grind)]; rcases hb with hb | ⟨k, rb, h1, h2, h3, h4⟩; exact .inl hb; exact .inr ⟨k, rb, h1, by omega, h3, h4⟩), st_sub hs2 _ rfl⟩
    · intro h25
      refine ws_l rfl rfl rfl rfl (rd_move rfl) ?_
      refine ws_l rfl rfl rfl rfl (rd_fieldAddr rfl) ?_
      refine ws_l rfl rfl rfl rfl (rd_load rfl) ?_
      refine ws_l rfl rfl rfl rfl (rd_move rfl) ?_
      refine ws_lcmp rfl rfl rfl (rfl) (rfl) (rfl) ?_ ?_
      · intro h30
        refine ws_l rfl rfl rfl rfl (rd_pick_f rfl rfl) ?_
        refine ws_l rfl rfl rfl rfl (rd_move rfl) ?_
        refine ws_xskip rfl rfl rfl rfl ?_
        refine ws_xskip rfl rfl rfl rfl ?_
        refine ws_xskip rfl rfl rfl rfl ?_
        refine ws_xskip rfl rfl rfl rfl ?_
        refine ws_l rfl rfl rfl rfl (rd_pick_t rfl rfl) ?_
        refine ws_nil ?_
        refine qe_then ?_
        refine wc_true rfl ?_
        refine wc_exit ?_
        refine qe_then_exit ?_
        refine qe_block_exit ?_
        refine qe_then ?_
        refine wc_plain [(0, .x true), (1, .x true), (2, .x true)] (by kernel_rfl) ?_
        refine ws_l rfl rfl rfl rfl (rd_move rfl) ?_
        refine ws_l rfl rfl rfl rfl (rd_arith (((j + 1 : Nat) : Nat) : Int) rfl rfl rfl (by rw [wrap_i64 _ (by omega) (by omega)]; omega)) ?_
        refine ws_l rfl rfl rfl rfl (rd_assign rfl) ?_
        refine ws_nil ?_
        exact qe_loop fun ac2 w2 hs2 => ⟨_, by (simp only [cmpP] at h15; omega), j + 1, z, rfl, (by simp only [cmpP] at h15; omega), (by rw [take_at hx, atPl_skip (by simp only [plOf, Pl.mk.injEq]; (try simp only [cmpP, ne_eq, Decidable.not_not] at *); grind)]; rcases hb with hb | ⟨k, rb, h1, h2, h3, h4⟩; exact .inl hb; exact .inr ⟨k, rb, h1, by omega, h3, h4⟩), st_sub hs2 _ rfl⟩
      · intro h30
        refine ws_l rfl rfl rfl rfl (rd_pick_f rfl rfl) ?_
        refine ws_l rfl rfl rfl rfl (rd_move rfl) ?_
        refine ws_l rfl rfl rfl rfl (rd_fieldAddr rfl) ?_
        refine ws_l rfl rfl rfl rfl (rd_load rfl) ?_
        refine ws_l rfl rfl rfl rfl (rd_load rfl) ?_
        refine ws_lp _ rfl rfl rfl rfl (rd_neq31 rfl rfl) ?_ ?_
        · intro h36
          refine ws_l rfl rfl rfl rfl (rd_pick_f rfl rfl) ?_
          refine ws_nil ?_
          refine qe_then ?_
          refine wc_true rfl ?_
          refine wc_exit ?_
          refine qe_then_exit ?_
          refine qe_block_exit ?_
          refine qe_then ?_
          refine wc_plain [(0, .x true), (1, .x true), (2, .x true)] (by kernel_rfl) ?_
          refine ws_l rfl rfl rfl rfl (rd_move rfl) ?_
          refine ws_l rfl rfl rfl rfl (rd_arith (((j + 1 : Nat) : Nat) : Int) rfl rfl rfl (by rw [wrap_i64 _ (by omega) (by omega)]; omega)) ?_
          refine ws_l rfl rfl rfl rfl (rd_assign rfl) ?_
          refine ws_nil ?_
          exact qe_loop fun ac2 w2 hs2 => ⟨_, by (simp only [cmpP] at h15; omega), j + 1, z, rfl, (by simp only [cmpP] at h15; omega), (by rw [take_at hx, atPl_skip (by simp only [plOf, Pl.mk.injEq]; (try simp only [cmpP, ne_eq, Decidable.not_not] at *); grind)]; rcases hb with hb | ⟨k, rb, h1, h2, h3, h4⟩; exact .inl hb; exact .inr ⟨k, rb, h1, by omega, h3, h4⟩), st_sub hs2 _ rfl⟩
        · intro h36
          refine ws_l rfl rfl rfl rfl (rd_pick_f rfl rfl) ?_
          refine ws_nil ?_
          refine qe_then ?_
          refine wc_false rfl ?_
          refine wc_skip ?_
          refine qe_then ?_
          refine wc_seq ?_
          refine wc_drawn mixedT _ (fun _ h => h) [(0, .r), (1, .r), (2, .r), (3, .r), (4, .r), (5, .r), (6, .r), (7, .r), (8, .r), (9, .r), (10, .r), (11, .r), (12, .r), (13, .r), (14, .r), (15, .r), (16, .r), (17, .r), (18, .r), (19, .r), (20, .r), (21, .r), (22, .r), (23, .r), (24, .r), (25, .r), (26, .r), (27, .r), (28, .r), (29, .x true), (30, .x true), (31, .x true), (32, .x true)] (by kernel_rfl) ?_
          refine ws_r rfl rfl rfl rfl (rd_move rfl) ?_
          rcases hb with ⟨hmin, rfl⟩ | ⟨k, rb, rfl, hkj, hlk, hmin⟩
          ·
            refine ws_r rfl rfl rfl rfl (rd_cmp_t rfl rfl rfl (by simp only [cmpP]; omega)) ?_
            refine ws_r rfl rfl rfl rfl (rd_move rfl) ?_
            refine ws_rskip rfl rfl rfl rfl ?_
            refine ws_rskip rfl rfl rfl rfl ?_
            refine ws_rskip rfl rfl rfl rfl ?_
            refine ws_rskip rfl rfl rfl rfl ?_
            refine ws_rskip rfl rfl rfl rfl ?_
            refine ws_rskip rfl rfl rfl rfl ?_
            refine ws_rskip rfl rfl rfl rfl ?_
            refine ws_rskip rfl rfl rfl rfl ?_
            refine ws_r rfl rfl rfl rfl (rd_pick_t rfl rfl) ?_
            refine ws_r rfl rfl rfl rfl (rd_move rfl) ?_
            refine ws_rskip rfl rfl rfl rfl ?_
            refine ws_rskip rfl rfl rfl rfl ?_
            refine ws_rskip rfl rfl rfl rfl ?_
            refine ws_rskip rfl rfl rfl rfl ?_
            refine ws_rskip rfl rfl rfl rfl ?_
            refine ws_rskip rfl rfl rfl rfl ?_
            refine ws_rskip rfl rfl rfl rfl ?_
            refine ws_rskip rfl rfl rfl rfl ?_
            refine ws_rskip rfl rfl rfl rfl ?_
            refine ws_rskip rfl rfl rfl rfl ?_
            refine ws_rskip rfl rfl rfl rfl ?_
            refine ws_rskip rfl rfl rfl rfl ?_
            refine ws_rskip rfl rfl rfl rfl ?_
            refine ws_rskip rfl rfl rfl rfl ?_
            refine ws_rskip rfl rfl rfl rfl ?_
            refine ws_rskip rfl rfl rfl rfl ?_
            refine ws_late rfl ?_
            refine ws_xskip rfl rfl rfl rfl ?_
            refine ws_xskip rfl rfl rfl rfl ?_
            refine ws_xskip rfl rfl rfl rfl ?_
            refine ws_l rfl rfl rfl rfl (rd_pick_t rfl rfl) ?_
            refine ws_nil ?_
            refine qe_then ?_
            refine wc_true rfl ?_
            refine wc_plain [(0, .x true), (1, .x true)] (by kernel_rfl) ?_
            refine ws_l rfl rfl rfl rfl (rd_move rfl) ?_
            refine ws_l rfl rfl rfl rfl (rd_assign rfl) ?_
            refine ws_nil ?_
            refine qe_block ?_
            refine qe_then ?_
            refine wc_plain [(0, .x true), (1, .x true), (2, .x true)] (by kernel_rfl) ?_
            refine ws_l rfl rfl rfl rfl (rd_move rfl) ?_
            refine ws_l rfl rfl rfl rfl (rd_arith (((j + 1 : Nat) : Nat) : Int) rfl rfl rfl (by rw [wrap_i64 _ (by omega) (by omega)]; omega)) ?_
            refine ws_l rfl rfl rfl rfl (rd_assign rfl) ?_
            refine ws_nil ?_
            exact qe_loop fun ac2 w2 hs2 => ⟨_, by (simp only [cmpP] at h15; omega), j + 1, j, rfl, (by simp only [cmpP] at h15; omega), (.inr ⟨j, x, rfl, by omega, hx, by rw [take_at hx, atPl_hit (by simp only [plOf, Pl.mk.injEq]; (try simp only [cmpP, ne_eq, Decidable.not_not] at *); grind), minOf_snoc, hmin]⟩), st_sub hs2 _ rfl⟩
          ·
            have atrb : AtR csg (og + k * 84) rb := at_rk hcg hlk
            refine ws_r rfl rfl rfl rfl (rd_cmp_f rfl rfl rfl (by simp only [cmpP]; omega)) ?_
            refine ws_r rfl rfl rfl rfl (rd_move rfl) ?_
            refine ws_r rfl rfl rfl rfl (rd_fieldAddr rfl) ?_
            refine ws_r rfl rfl rfl rfl (rd_load rfl) ?_
            refine ws_r rfl rfl rfl rfl (rd_move rfl) ?_
            refine ws_r rfl rfl rfl rfl (rd_move rfl) ?_
            refine ws_r rfl rfl rfl rfl (rd_index (og + k * 84) rfl rfl Tryz.underlying25 Tryz.sizeOf53 ⟨by omega, by omega⟩ (by simp)) ?_
            refine ws_r rfl rfl rfl rfl (rd_fieldAddr rfl) ?_
            refine ws_r rfl rfl rfl rfl (rd_load rfl) ?_
            refine ws_rcmp rfl rfl rfl (rfl) (rfl) (rfl) ?_ ?_
            · intro h48
              refine ws_r rfl rfl rfl rfl (rd_pick_f rfl rfl) ?_
              refine ws_r rfl rfl rfl rfl (rd_move rfl) ?_
              refine ws_rskip rfl rfl rfl rfl ?_
              refine ws_rskip rfl rfl rfl rfl ?_
              refine ws_rskip rfl rfl rfl rfl ?_
              refine ws_rskip rfl rfl rfl rfl ?_
              refine ws_rskip rfl rfl rfl rfl ?_
              refine ws_rskip rfl rfl rfl rfl ?_
              refine ws_rskip rfl rfl rfl rfl ?_
              refine ws_rskip rfl rfl rfl rfl ?_
              refine ws_rskip rfl rfl rfl rfl ?_
              refine ws_rskip rfl rfl rfl rfl ?_
              refine ws_rskip rfl rfl rfl rfl ?_
              refine ws_rskip rfl rfl rfl rfl ?_
              refine ws_rskip rfl rfl rfl rfl ?_
              refine ws_rskip rfl rfl rfl rfl ?_
              refine ws_rskip rfl rfl rfl rfl ?_
              refine ws_rskip rfl rfl rfl rfl ?_
              refine ws_late rfl ?_
              refine ws_xskip rfl rfl rfl rfl ?_
              refine ws_xskip rfl rfl rfl rfl ?_
              refine ws_xskip rfl rfl rfl rfl ?_
              refine ws_l rfl rfl rfl rfl (rd_pick_t rfl rfl) ?_
              refine ws_nil ?_
              refine qe_then ?_
              refine wc_true rfl ?_
              refine wc_plain [(0, .x true), (1, .x true)] (by kernel_rfl) ?_
              refine ws_l rfl rfl rfl rfl (rd_move rfl) ?_
              refine ws_l rfl rfl rfl rfl (rd_assign rfl) ?_
              refine ws_nil ?_
              refine qe_block ?_
              refine qe_then ?_
              refine wc_plain [(0, .x true), (1, .x true), (2, .x true)] (by kernel_rfl) ?_
              refine ws_l rfl rfl rfl rfl (rd_move rfl) ?_
              refine ws_l rfl rfl rfl rfl (rd_arith (((j + 1 : Nat) : Nat) : Int) rfl rfl rfl (by rw [wrap_i64 _ (by omega) (by omega)]; omega)) ?_
              refine ws_l rfl rfl rfl rfl (rd_assign rfl) ?_
              refine ws_nil ?_
              exact qe_loop fun ac2 w2 hs2 => ⟨_, by (simp only [cmpP] at h15; omega), j + 1, j, rfl, (by simp only [cmpP] at h15; omega), (.inr ⟨j, x, rfl, by omega, hx, by rw [take_at hx, atPl_hit (by simp only [plOf, Pl.mk.injEq]; (try simp only [cmpP, ne_eq, Decidable.not_not] at *); grind), minOf_snoc, hmin]; exact congrArg some (if_pos (by simp only [rkLt, numLt]; (try simp only [cmpP, ne_eq, Decidable.not_not] at *); grind))⟩), st_sub hs2 _ rfl⟩
            · intro h48
              refine ws_r rfl rfl rfl rfl (rd_pick_f rfl rfl) ?_
              refine ws_r rfl rfl rfl rfl (rd_move rfl) ?_
              refine ws_r rfl rfl rfl rfl (rd_fieldAddr rfl) ?_
              refine ws_r rfl rfl rfl rfl (rd_load rfl) ?_
              refine ws_r rfl rfl rfl rfl (rd_move rfl) ?_
              refine ws_r rfl rfl rfl rfl (rd_move rfl) ?_
              refine ws_r rfl rfl rfl rfl (rd_index (og + k * 84) rfl rfl Tryz.underlying25 Tryz.sizeOf53 ⟨by omega, by omega⟩ (by simp)) ?_
              refine ws_r rfl rfl rfl rfl (rd_fieldAddr rfl) ?_
              refine ws_r rfl rfl rfl rfl (rd_load rfl) ?_
              refine ws_rcmp rfl rfl rfl (rfl) (rfl) (rfl) ?_ ?_
              · intro h58
                refine ws_r rfl rfl rfl rfl (rd_move rfl) ?_
                refine ws_r rfl rfl rfl rfl (rd_fieldAddr rfl) ?_
                refine ws_r rfl rfl rfl rfl (rd_sliceArr rfl Tryz.underlying36 rfl Tryz.sizeOf5) ?_
                refine ws_r rfl rfl rfl rfl (rd_move rfl) ?_
                refine ws_r rfl rfl rfl rfl (rd_move rfl) ?_
                refine ws_r rfl rfl rfl rfl (rd_index (og + k * 84) rfl rfl Tryz.underlying25 Tryz.sizeOf53 ⟨by omega, by omega⟩ (by simp)) ?_
                refine ws_r rfl rfl rfl rfl (rd_fieldAddr rfl) ?_
                refine ws_r rfl rfl rfl rfl (rd_sliceArr rfl Tryz.underlying36 rfl Tryz.sizeOf5) ?_
                refine ws_late rfl ?_
                refine ws_call rfl rfl rfl rfl rfl (En.go) (fun w hp hn ho => compare_ref (b := b11) (b' := bg) (cs := rkC x) (cs' := csg) (E := 53) (E' := Eg) (fr := (0, 0)) (fr' := frg) (by omega) (ne_of_nd hn (List.mem_cons_of_mem _ (List.mem_cons_of_mem _ hmg))) w (hp.mono (by intro q hq; simp at hq; rcases hq with rfl | rfl; simp; simp [hmg]))) (fun _ h => by cases h) (fun hh q h => by first | (cases h; done) | exact hh q h) ?_
                rintro v67 wa wb hpo hon hon2 hp1 ⟨z2, rfl, hz⟩
                refine ⟨[], HpOK.nil _, by simp, by simp, ?_⟩
                refine ws_lcmp rfl rfl rfl (rfl) (rfl) (rfl) ?_ ?_
                · intro h68
                  simp only [cmpP] at h68; rw [hz] at h68
                  refine ws_l rfl rfl rfl rfl (rd_pick_t rfl rfl) ?_
                  refine ws_l rfl rfl rfl rfl (rd_pick_f rfl rfl) ?_
                  refine ws_nil ?_
                  refine qe_then ?_
                  refine wc_true rfl ?_
                  refine wc_plain [(0, .x true), (1, .x true)] (by kernel_rfl) ?_
                  refine ws_l rfl rfl rfl rfl (rd_move rfl) ?_
                  refine ws_l rfl rfl rfl rfl (rd_assign rfl) ?_
                  refine ws_nil ?_
                  refine qe_block ?_
                  refine qe_then ?_
                  refine wc_plain [(0, .x true), (1, .x true), (2, .x true)] (by kernel_rfl) ?_
                  refine ws_l rfl rfl rfl rfl (rd_move rfl) ?_
                  refine ws_l rfl rfl rfl rfl (rd_arith (((j + 1 : Nat) : Nat) : Int) rfl rfl rfl (by rw [wrap_i64 _ (by omega) (by omega)]; omega)) ?_
                  refine ws_l rfl rfl rfl rfl (rd_assign rfl) ?_
                  refine ws_nil ?_
                  exact qe_loop fun ac2 w2 hs2 => ⟨_, by (simp only [cmpP] at h15; omega), j + 1, j, rfl, (by simp only [cmpP] at h15; omega), (.inr ⟨j, x, rfl, by omega, hx, by rw [take_at hx, atPl_hit (by simp only [plOf, Pl.mk.injEq]; (try simp only [cmpP, ne_eq, Decidable.not_not] at *); grind), minOf_snoc, hmin]; exact congrArg some (if_pos (by simp only [rkLt, numLt]; (try simp only [cmpP, ne_eq, Decidable.not_not] at *); grind))⟩), st_sub hs2 _ rfl⟩
                · intro h68
                  simp only [cmpP] at h68; rw [hz] at h68
                  refine ws_l rfl rfl rfl rfl (rd_pick_t rfl rfl) ?_
                  refine ws_l rfl rfl rfl rfl (rd_pick_f rfl rfl) ?_
                  refine ws_nil ?_
                  refine qe_then ?_
                  refine wc_false rfl ?_
                  refine wc_skip ?_
                  refine qe_block ?_
                  refine qe_then ?_
                  refine wc_plain [(0, .x true), (1, .x true), (2, .x true)] (by kernel_rfl) ?_
                  refine ws_l rfl rfl rfl rfl (rd_move rfl) ?_
                  refine ws_l rfl rfl rfl rfl (rd_arith (((j + 1 : Nat) : Nat) : Int) rfl rfl rfl (by rw [wrap_i64 _ (by omega) (by omega)]; omega)) ?_
                  refine ws_l rfl rfl rfl rfl (rd_assign rfl) ?_
                  refine ws_nil ?_
                  exact qe_loop fun ac2 w2 hs2 => ⟨_, by (simp only [cmpP] at h15; omega), j + 1, k, rfl, (by simp only [cmpP] at h15; omega), (.inr ⟨k, rb, rfl, by omega, hlk, by rw [take_at hx, atPl_hit (by simp only [plOf, Pl.mk.injEq]; (try simp only [cmpP, ne_eq, Decidable.not_not] at *); grind), minOf_snoc, hmin]; exact congrArg some (if_neg (by simp only [rkLt, numLt]; (try simp only [cmpP, ne_eq, Decidable.not_not] at *); grind))⟩), st_sub hs2 _ rfl⟩
              · intro h58
                refine ws_r rfl rfl rfl rfl (rd_move rfl) ?_
                refine ws_rskip rfl rfl rfl rfl ?_
                refine ws_rskip rfl rfl rfl rfl ?_
                refine ws_rskip rfl rfl rfl rfl ?_
                refine ws_rskip rfl rfl rfl rfl ?_
                refine ws_rskip rfl rfl rfl rfl ?_
                refine ws_rskip rfl rfl rfl rfl ?_
                refine ws_rskip rfl rfl rfl rfl ?_
                refine ws_late rfl ?_
                refine ws_xskip rfl rfl rfl rfl ?_
                refine ws_xskip rfl rfl rfl rfl ?_
                refine ws_l rfl rfl rfl rfl (rd_pick_f rfl rfl) ?_
                refine ws_l rfl rfl rfl rfl (rd_pick_f rfl rfl) ?_
                refine ws_nil ?_
                refine qe_then ?_
                refine wc_false rfl ?_
                refine wc_skip ?_
                refine qe_block ?_
                refine qe_then ?_
                refine wc_plain [(0, .x true), (1, .x true), (2, .x true)] (by kernel_rfl) ?_
                refine ws_l rfl rfl rfl rfl (rd_move rfl) ?_
                refine ws_l rfl rfl rfl rfl (rd_arith (((j + 1 : Nat) : Nat) : Int) rfl rfl rfl (by rw [wrap_i64 _ (by omega) (by omega)]; omega)) ?_
                refine ws_l rfl rfl rfl rfl (rd_assign rfl) ?_
                refine ws_nil ?_
                exact qe_loop fun ac2 w2 hs2 => ⟨_, by (simp only [cmpP] at h15; omega), j + 1, k, rfl, (by simp only [cmpP] at h15; omega), (.inr ⟨k, rb, rfl, by omega, hlk, by rw [take_at hx, atPl_hit (by simp only [plOf, Pl.mk.injEq]; (try simp only [cmpP, ne_eq, Decidable.not_not] at *); grind), minOf_snoc, hmin]; exact congrArg some (if_neg (by simp only [rkLt, numLt]; (try simp only [cmpP, ne_eq, Decidable.not_not] at *); grind))⟩), st_sub hs2 _ rfl⟩
  · intro h15
    refine ws_nil ?_
    refine qe_then ?_
    refine wc_false rfl ?_
    refine wc_exit ?_
    refine qe_then_exit ?_
    refine qe_then_exit ?_
    refine qe_block_exit ?_
    refine qe_then ?_
    refine wc_keep [(9, _)] rfl ?_
    refine wc_seq ?_
    refine wc_plain [(0, .x true), (1, .x true)] (by kernel_rfl) ?_
    refine ws_l rfl rfl rfl rfl (rd_move rfl) ?_
    refine ws_l rfl rfl rfl rfl (rd_assign rfl) ?_
    refine ws_nil ?_
    refine qe_then ?_
    refine wc_ret ?_
    refine qe_body _ (.inl rfl) (res1 rfl (RV.tmp rfl)) ?_
    rw [List.take_of_length_le (by simp only [cmpP] at h15; omega)] at hb
    exact ret_end fun w hp hn ho => ⟨z, rfl, hb.elim .inl fun ⟨k, r, h1, _, h2, h3⟩ => .inr ⟨k, r, h1, h2, h3⟩⟩

end Go.Proofs.YtheioljidangkaaGreat
