/- Walks of small functions. No conditions. -/
import Derived.Test.YtaagmgpfpaanlaaAbs
import Derived.Test.YtaagmgpfpaanlaaZx
namespace Go.Proofs.Ytaagmgpfpaanlaa
open Go Go.RowKit Go.Sx
set_option linter.unusedSimpArgs false
set_option linter.unusedVariables false

theorem bytescmp_ret {b b' o o' n n' c c' : Nat} {cs cs' : Array Value} {E E' : TypeId} {fr fr' : Nat × Nat} {bs bs' : List UInt8} [BytesAt cs o n bs] [BytesAt cs' o' n' bs'] (hne : b ≠ b') (w : World) (hη : HpOK [(b, .cells cs E fr), (b', .cells cs' E' fr')] w) :
    Ret Try.prog 68 [.slice (some ⟨b, o, none⟩) n c, .slice (some ⟨b', o', none⟩) n' c'] w [] (fun v _ => v = I (Lib.compareBytes bs bs'))  := by
  refine enter (n := 8) (args := [.slice (some ⟨b, o, none⟩) n c, .slice (some ⟨b', o', none⟩) n' c']) [] [(b, .cells cs E fr), (b', .cells cs' E' fr')] Try.func68 rfl rfl rfl hη (by simp [hne]) ?_
  refine wc_seq ?_
  refine wc_plain [(0, .x true)] (by kernel_rfl) ?_
  refine ws_l rfl rfl rfl rfl (rd_assign rfl) ?_
  refine ws_nil ?_
  refine qe_then ?_
  refine wc_seq ?_
  refine wc_plain [(0, .x true), (1, .x true), (2, .x true), (3, .x true)] (by kernel_rfl) ?_
  refine ws_l rfl rfl rfl rfl (rd_move rfl) ?_
  refine ws_l rfl rfl rfl rfl (rd_move rfl) ?_
  refine ws_l rfl rfl rfl rfl (rd_extern Try.func77 (by kernel_rfl) (by kernel_rfl) (by kernel_rfl) (e := Extern.BytealgCompare.compare) (by kernel_rfl) rfl rfl (fun w hp => run_compareBytes (hp b (.cells cs E fr) (by simp)) (hp b' (.cells cs' E' fr') (by simp)))) ?_
  refine ws_l rfl rfl rfl rfl (rd_assign rfl) ?_
  refine ws_nil ?_
  refine qe_then ?_
  refine wc_keep [(4, _)] rfl ?_
  refine wc_ret ?_
  refine qe_body _ (.inl rfl) (res1 rfl (RV.tmp rfl)) ?_
  exact ret_end fun w hp hn ho => rfl
set_option maxRecDepth 100000 in
set_option maxHeartbeats 1000000 in
theorem isnan_ret (n : Int) (w : World) : Ret Try.prog 89 [I n] w [] (fun v _ => v = .bool false) := by
  refine enter (n := 6) (args := [I n]) [] [] Try.func89 rfl rfl rfl (HpOK.nil w) (by simp) ?_
  refine wc_seq ?_
  refine wc_plain [(0, .x true)] (by kernel_rfl) ?_
  refine ws_l rfl rfl rfl rfl (rd_assign rfl) ?_
  refine ws_nil ?_
  refine qe_then ?_
  refine wc_seq ?_
  refine wc_plain [(0, .x true), (1, .x true), (2, .x true), (3, .x true)] (by kernel_rfl) ?_
  refine ws_l rfl rfl rfl rfl (rd_move rfl) ?_
  refine ws_l rfl rfl rfl rfl (rd_move rfl) ?_
  refine ws_l rfl rfl rfl rfl (rd_cmp_f rfl rfl rfl (by simp [cmpP])) ?_
  refine ws_l rfl rfl rfl rfl (rd_assign rfl) ?_
  refine ws_nil ?_
  refine qe_then ?_
  refine wc_ret ?_
  refine qe_body _ (.inl rfl) (res1 rfl (RV.tmp rfl)) ?_
  exact ret_end fun w hp hn ho => rfl
set_option maxRecDepth 100000 in
set_option maxHeartbeats 1000000 in
theorem cmp_ret (m n : Int) (w : World) : Ret Try.prog 74 [I m, I n] w [] (fun v _ => v = I (cmpF m n)) := by
  refine enter (n := 20) (args := [I m, I n]) [] [] Try.func74 rfl rfl rfl (HpOK.nil w) (by simp) ?_
  refine wc_seq ?_
  refine wc_plain [(0, .x true)] (by kernel_rfl) ?_
  refine ws_l rfl rfl rfl rfl (rd_assign rfl) ?_
  refine ws_nil ?_
  refine qe_then ?_
  refine wc_seq ?_
  refine wc_plain [(0, .x true), (1, .x true), (2, .x true)] (by kernel_rfl) ?_
  refine ws_l rfl rfl rfl rfl (rd_move rfl) ?_
  refine ws_callp rfl rfl rfl rfl rfl (En.go) (fun w hp hn ho => isnan_ret _ w) ?_
  refine ws_l rfl rfl rfl rfl (rd_assign rfl) ?_
  refine ws_nil ?_
  refine qe_then ?_
  refine wc_seq ?_
  refine wc_plain [(0, .x true), (1, .x true), (2, .x true)] (by kernel_rfl) ?_
  refine ws_l rfl rfl rfl rfl (rd_move rfl) ?_
  refine ws_callp rfl rfl rfl rfl rfl (En.go) (fun w hp hn ho => isnan_ret _ w) ?_
  refine ws_l rfl rfl rfl rfl (rd_assign rfl) ?_
  refine ws_nil ?_
  refine qe_then ?_
  refine wc_seq ?_
  refine wc_seq ?_
  refine wc_plain [(0, .x true)] (by kernel_rfl) ?_
  refine ws_l rfl rfl rfl rfl (rd_move rfl) ?_
  refine ws_nil ?_
  refine qe_then ?_
  refine wc_keep [(0, _), (1, _), (4, _), (6, _), (11, _)] rfl ?_
  refine wc_false rfl ?_
  refine wc_skip ?_
  refine qe_then ?_
  refine wc_seq ?_
  refine wc_seq ?_
  refine wc_plain [(0, .x true)] (by kernel_rfl) ?_
  refine ws_l rfl rfl rfl rfl (rd_move rfl) ?_
  refine ws_nil ?_
  refine qe_then ?_
  refine wc_false rfl ?_
  refine wc_skip ?_
  refine qe_then ?_
  refine wc_seq ?_
  refine wc_seq ?_
  refine wc_plain [(0, .x true), (1, .x true), (2, .x true)] (by kernel_rfl) ?_
  refine ws_l rfl rfl rfl rfl (rd_move rfl) ?_
  refine ws_l rfl rfl rfl rfl (rd_move rfl) ?_
  refine ws_lcmp rfl rfl rfl (rfl) (rfl) (rfl) ?_ ?_
  · intro h16
    refine ws_nil ?_
    refine qe_then ?_
    refine wc_keep [(0, _), (1, _), (4, _), (16, _)] rfl ?_
    refine wc_true rfl ?_
    refine wc_seq ?_
    refine wc_plain [(0, .x true)] (by kernel_rfl) ?_
    refine ws_l rfl rfl rfl rfl (rd_assign rfl) ?_
    refine ws_nil ?_
    refine qe_then ?_
    refine wc_ret ?_
    refine qe_then_ret ?_
    refine qe_body _ (.inl rfl) (res1 rfl (RV.tmp rfl)) ?_
    exact ret_end fun w hp hn ho => by simp only [cmpF]; split <;> first | rfl | (split <;> first | rfl | omega) | omega
  · intro h16
    refine ws_nil ?_
    refine qe_then ?_
    refine wc_keep [(0, _), (1, _), (4, _), (16, _)] rfl ?_
    refine wc_false rfl ?_
    refine wc_skip ?_
    refine qe_then ?_
    refine wc_seq ?_
    refine wc_seq ?_
    refine wc_plain [(0, .x true), (1, .x true), (2, .x true)] (by kernel_rfl) ?_
    refine ws_l rfl rfl rfl rfl (rd_move rfl) ?_
    refine ws_l rfl rfl rfl rfl (rd_move rfl) ?_
    refine ws_lcmp rfl rfl rfl (rfl) (rfl) (rfl) ?_ ?_
    · intro h19
      refine ws_nil ?_
      refine qe_then ?_
      refine wc_keep [(4, _), (19, _)] rfl ?_
      refine wc_true rfl ?_
      refine wc_seq ?_
      refine wc_plain [(0, .x true)] (by kernel_rfl) ?_
      refine ws_l rfl rfl rfl rfl (rd_assign rfl) ?_
      refine ws_nil ?_
      refine qe_then ?_
      refine wc_ret ?_
      refine qe_then_ret ?_
      refine qe_body _ (.inl rfl) (res1 rfl (RV.tmp rfl)) ?_
      exact ret_end fun w hp hn ho => by simp only [cmpF]; split <;> first | rfl | (split <;> first | rfl | omega) | omega
    · intro h19
      refine ws_nil ?_
      refine qe_then ?_
      refine wc_keep [(4, _), (19, _)] rfl ?_
      refine wc_false rfl ?_
      refine wc_skip ?_
      refine qe_then ?_
      refine wc_seq ?_
      refine wc_plain [(0, .x true)] (by kernel_rfl) ?_
      refine ws_l rfl rfl rfl rfl (rd_assign rfl) ?_
      refine ws_nil ?_
      refine qe_then ?_
      refine wc_ret ?_
      refine qe_body _ (.inl rfl) (res1 rfl (RV.tmp rfl)) ?_
      exact ret_end fun w hp hn ho => by simp only [cmpF]; split <;> first | rfl | (split <;> first | rfl | omega) | omega
set_option maxRecDepth 100000 in
set_option maxHeartbeats 1000000 in
theorem or_ret (b : Nat) (xs : List Int) (hlen : xs.length < 1048576) (w : World) (hη : HpOK [(b, .cells (xs.map I).toArray 3 (0, 0))] w) : Ret Try.prog 73 [.slice (some ⟨b, 0, none⟩) xs.length xs.length] w [] (fun v _ => v = I (orF xs)) := by
  refine enter (n := 18) (args := [.slice (some ⟨b, 0, none⟩) xs.length xs.length]) [] [(b, .cells (xs.map I).toArray 3 (0, 0))] Try.func73 rfl rfl rfl hη (by simp) ?_
  refine wc_seq ?_
  refine wc_plain [(0, .x true)] (by kernel_rfl) ?_
  refine ws_l rfl rfl rfl rfl (rd_assign rfl) ?_
  refine ws_nil ?_
  refine qe_then ?_
  refine wc_seq ?_
  refine wc_plain [(0, .x true)] (by kernel_rfl) ?_
  refine ws_l rfl rfl rfl rfl (rd_assign rfl) ?_
  refine ws_nil ?_
  refine qe_then ?_
  refine wc_seq ?_
  refine wc_seq ?_
  refine wc_plain [(0, .x true), (1, .x true), (2, .x true)] (by kernel_rfl) ?_
  refine ws_l rfl rfl rfl rfl (rd_move rfl) ?_
  refine ws_l rfl rfl rfl rfl (rd_len rfl Try.underlying66) ?_
  refine ws_l rfl rfl rfl rfl (rd_move rfl) ?_
  refine ws_nil ?_
  refine qe_then ?_
  refine wc_block ?_
  refine wc_loop (fun mz ac w1 => ∃ (j : Nat), mz = xs.length - j ∧ (j ≤ xs.length) ∧ (orF (xs.drop j) = orF xs) ∧ St 18 w [] [(3, I 0), (6, .slice (some ⟨b, 0, none⟩) xs.length xs.length), (7, I xs.length), (8, I j)] [(b, .cells (xs.map I).toArray 3 (0, 0))] ac w1) _ (fun ac w1 hs => ⟨0, rfl, (by omega), (by simp), st_sub hs _ rfl⟩) ?_
  rintro _ ac1 wl1 ⟨j, rfl, hj, hf, hs1⟩
  refine wc_at hs1 ?_
  refine wc_seq ?_
  refine wc_plain [(0, .x true)] (by kernel_rfl) ?_
  refine ws_lcmp rfl rfl rfl (rfl) (rfl) (rfl) ?_ ?_
  · intro h9
    refine ws_nil ?_
    refine qe_then ?_
    refine wc_seq ?_
    refine wc_true rfl ?_
    refine wc_skip ?_
    refine qe_then ?_
    refine wc_seq ?_
    refine wc_block ?_
    refine wc_seq ?_
    refine wc_plain [(0, .x true), (1, .x true), (2, .x true)] (by kernel_rfl) ?_
    obtain ⟨x, hx⟩ := at_ex (l := xs) (j := j) (by omega)
    have atx : GetAt (xs.map I).toArray (j * 1) (I x) := ⟨by simp [hx]⟩
    refine ws_l rfl rfl rfl rfl (rd_ix rfl rfl Try.underlying66 Try.sizeOf3 (by omega)) ?_
    refine ws_l rfl rfl rfl rfl (rd_load rfl) ?_
    refine ws_l rfl rfl rfl rfl (rd_assign rfl) ?_
    refine ws_nil ?_
    refine qe_then ?_
    refine wc_seq ?_
    refine wc_plain [(0, .x true), (1, .x true), (2, .x true)] (by kernel_rfl) ?_
    refine ws_l rfl rfl rfl rfl (rd_move rfl) ?_
    refine ws_l rfl rfl rfl rfl (rd_move rfl) ?_
    refine ws_lcmp rfl rfl rfl (rfl) (rfl) (rfl) ?_ ?_
    · intro h14
      refine ws_nil ?_
      refine qe_then ?_
      refine wc_true rfl ?_
      refine wc_seq ?_
      refine wc_plain [(0, .x true), (1, .x true)] (by kernel_rfl) ?_
      refine ws_l rfl rfl rfl rfl (rd_move rfl) ?_
      refine ws_l rfl rfl rfl rfl (rd_assign rfl) ?_
      refine ws_nil ?_
      refine qe_then ?_
      refine wc_ret ?_
      refine qe_block_ret ?_
      refine qe_then_ret ?_
      refine qe_then_ret ?_
      refine qe_block_ret ?_
      refine qe_then_ret ?_
      refine qe_body _ (.inl rfl) (res1 rfl (RV.tmp rfl)) ?_
      exact ret_end fun w hp hn ho => by rw [← hf]; simp [orF, drop_at hx, *]
    · intro h14
      refine ws_nil ?_
      refine qe_then ?_
      refine wc_false rfl ?_
      refine wc_skip ?_
      refine qe_block ?_
      refine qe_then ?_
      refine wc_plain [(0, .x true), (1, .x true)] (by kernel_rfl) ?_
      refine ws_l rfl rfl rfl rfl (rd_arith (((j + 1 : Nat) : Int)) rfl rfl rfl (by rw [wrap_i64 _ (by omega) (by omega)]; omega)) ?_
      refine ws_l rfl rfl rfl rfl (rd_move rfl) ?_
      refine ws_nil ?_
      exact qe_loop fun ac2 w2 hs2 => ⟨_, by omega, j + 1, rfl, (by omega), (by rw [← hf, drop_at hx]; have h0 : x = 0 := (by omega); simp [orF, h0]), st_sub hs2 _ rfl⟩
  · intro h9
    refine ws_nil ?_
    refine qe_then ?_
    refine wc_seq ?_
    refine wc_false rfl ?_
    refine wc_exit ?_
    refine qe_then_exit ?_
    refine qe_then_exit ?_
    refine qe_block_exit ?_
    refine qe_then ?_
    refine wc_seq ?_
    refine wc_plain [(0, .x true), (1, .x true)] (by kernel_rfl) ?_
    refine ws_l rfl rfl rfl rfl (rd_move rfl) ?_
    refine ws_l rfl rfl rfl rfl (rd_assign rfl) ?_
    refine ws_nil ?_
    refine qe_then ?_
    refine wc_keep [(2, _)] rfl ?_
    refine wc_ret ?_
    refine qe_body _ (.inl rfl) (res1 rfl (RV.tmp rfl)) ?_
    exact ret_end fun w hp hn ho => by rw [← hf, List.drop_eq_nil_of_le (by omega)]; rfl
set_option maxRecDepth 100000 in
set_option maxHeartbeats 1000000 in
theorem before_ref (a b : Id) (w : World) : Ret Try.prog 42 [idK a, idK b] w [] (fun v _ => v = .bool (decide (idLt a b))) := by
  refine enter (n := 10) (args := [idK a, idK b]) [] [] Try.func42 rfl rfl rfl (HpOK.nil w) (by simp) ?_
  refine wc_seq ?_
  refine wc_plain [(0, .x true), (1, .x true), (2, .x true)] (by kernel_rfl) ?_
  refine ws_box rfl rfl rfl rfl ?_
  intro b2 hb2
  refine ws_box rfl rfl rfl rfl ?_
  intro b3 hb3
  refine ws_l rfl rfl rfl rfl (rd_assign rfl) ?_
  refine ws_nil ?_
  refine qe_then ?_
  refine wc_seq ?_
  refine wc_drawn mixedT _ (fun _ h => h) [(0, .r), (1, .r), (2, .r), (3, .r), (4, .x true), (5, .x true)] (by kernel_rfl) ?_
  refine ws_r rfl rfl rfl rfl (rd_sliceArr rfl Try.underlying37 rfl Try.sizeOf5) ?_
  refine ws_r rfl rfl rfl rfl (rd_str rfl Try.underlying105 Try.underlying5 Try.underlying9) ?_
  refine ws_r rfl rfl rfl rfl (rd_sliceArr rfl Try.underlying37 rfl Try.sizeOf5) ?_
  refine ws_r rfl rfl rfl rfl (rd_str rfl Try.underlying105 Try.underlying5 Try.underlying9) ?_
  refine ws_late rfl ?_
  refine ws_lp _ rfl rfl rfl rfl (rd_strlt rfl rfl) ?_ ?_
  · intro h9
    refine ws_l rfl rfl rfl rfl (rd_assign rfl) ?_
    refine ws_nil ?_
    refine qe_then ?_
    refine wc_keep [(4, _)] rfl ?_
    refine wc_ret ?_
    refine qe_body _ (.inl rfl) (res1 rfl (RV.tmp rfl)) ?_
    exact ret_end fun w hp hn ho => by simp [*]
  · intro h9
    refine ws_l rfl rfl rfl rfl (rd_assign rfl) ?_
    refine ws_nil ?_
    refine qe_then ?_
    refine wc_keep [(4, _)] rfl ?_
    refine wc_ret ?_
    refine qe_body _ (.inl rfl) (res1 rfl (RV.tmp rfl)) ?_
    exact ret_end fun w hp hn ho => by simp [*]
set_option maxRecDepth 100000 in
set_option maxHeartbeats 1000000 in
theorem date_ret (r : RR) (g : GV) (w : World) : Ret Try.prog 48 [.agg (rowC r g)] w [] (fun v _ => v = .bool (decide (dateB r.date))) := by
  refine enter (n := 11) (args := [.agg (rowC r g)]) [] [] Try.func48 rfl rfl rfl (HpOK.nil w) (by simp) ?_
  refine wc_seq ?_
  refine wc_plain [(0, .x true), (1, .x true)] (by kernel_rfl) ?_
  refine ws_box rfl rfl rfl rfl ?_
  intro b1 hb1
  refine ws_l rfl rfl rfl rfl (rd_assign rfl) ?_
  refine ws_nil ?_
  refine qe_then ?_
  refine wc_seq ?_
  refine wc_plain [(0, .x true), (1, .x true), (2, .x true), (3, .x true), (4, .x true), (5, .x true), (6, .x true), (7, .x true), (8, .x true)] (by kernel_rfl) ?_
  refine ws_l rfl rfl rfl rfl (rd_fieldAddr rfl) ?_
  refine ws_l rfl rfl rfl rfl (rd_load rfl) ?_
  refine ws_lcmp rfl rfl rfl (rfl) (rfl) (rfl) ?_ ?_
  · intro h5
    refine ws_l rfl rfl rfl rfl (rd_move rfl) ?_
    refine ws_l rfl rfl rfl rfl (rd_fieldAddr rfl) ?_
    refine ws_l rfl rfl rfl rfl (rd_load rfl) ?_
    refine ws_lcmp rfl rfl rfl (rfl) (rfl) (rfl) ?_ ?_
    · intro h9
      refine ws_l rfl rfl rfl rfl (rd_pick_t rfl rfl) ?_
      refine ws_l rfl rfl rfl rfl (rd_assign rfl) ?_
      refine ws_nil ?_
      refine qe_then ?_
      refine wc_keep [(2, _)] rfl ?_
      refine wc_ret ?_
      refine qe_body _ (.inl rfl) (res1 rfl (RV.tmp rfl)) ?_
      exact ret_end fun w hp hn ho => by (try simp only [cmpP, ne_eq, Decidable.not_not] at *); by_cases hd : dateB r.date <;> simp only [hd] <;> simp only [dateB] at hd <;> first | rfl | (simp; done) | omega
    · intro h9
      refine ws_l rfl rfl rfl rfl (rd_pick_t rfl rfl) ?_
      refine ws_l rfl rfl rfl rfl (rd_assign rfl) ?_
      refine ws_nil ?_
      refine qe_then ?_
      refine wc_keep [(2, _)] rfl ?_
      refine wc_ret ?_
      refine qe_body _ (.inl rfl) (res1 rfl (RV.tmp rfl)) ?_
      exact ret_end fun w hp hn ho => by (try simp only [cmpP, ne_eq, Decidable.not_not] at *); by_cases hd : dateB r.date <;> simp only [hd] <;> simp only [dateB] at hd <;> first | rfl | (simp; done) | omega
  · intro h5
    refine ws_l rfl rfl rfl rfl (rd_move rfl) ?_
    refine ws_xskip rfl rfl rfl rfl ?_
    refine ws_xskip rfl rfl rfl rfl ?_
    refine ws_xskip rfl rfl rfl rfl ?_
    refine ws_l rfl rfl rfl rfl (rd_pick_f rfl rfl) ?_
    refine ws_l rfl rfl rfl rfl (rd_assign rfl) ?_
    refine ws_nil ?_
    refine qe_then ?_
    refine wc_keep [(2, _)] rfl ?_
    refine wc_ret ?_
    refine qe_body _ (.inl rfl) (res1 rfl (RV.tmp rfl)) ?_
    exact ret_end fun w hp hn ho => by (try simp only [cmpP, ne_eq, Decidable.not_not] at *); by_cases hd : dateB r.date <;> simp only [hd] <;> simp only [dateB] at hd <;> first | rfl | (simp; done) | omega
set_option maxRecDepth 100000 in
set_option maxHeartbeats 1000000 in
theorem idcmp_ret (a b : Id) (w : World) : Ret Try.prog 67 [idK a, idK b] w [] (fun v _ => v = I (cmpId a b)) := by
  refine enter (n := 8) (args := [idK a, idK b]) [] [] Try.func67 rfl rfl rfl (HpOK.nil w) (by simp) ?_
  refine wc_seq ?_
  refine wc_plain [(0, .x true), (1, .x true), (2, .x true)] (by kernel_rfl) ?_
  refine ws_box rfl rfl rfl rfl ?_
  intro b2 hb2
  refine ws_box rfl rfl rfl rfl ?_
  intro b3 hb3
  refine ws_l rfl rfl rfl rfl (rd_assign rfl) ?_
  refine ws_nil ?_
  refine qe_then ?_
  refine wc_seq ?_
  refine wc_drawn mixedT _ (fun _ h => h) [(0, .r), (1, .r), (2, .x true), (3, .x true)] (by kernel_rfl) ?_
  refine ws_r rfl rfl rfl rfl (rd_sliceArr rfl Try.underlying38 rfl Try.sizeOf5) ?_
  refine ws_r rfl rfl rfl rfl (rd_sliceArr rfl Try.underlying38 rfl Try.sizeOf5) ?_
  refine ws_late rfl ?_
  refine ws_callp rfl rfl rfl rfl rfl (En.go) (fun w hp hn ho => bytescmp_ret (b := b2) (b' := b3) (cs := idC a) (cs' := idC b) (E := 38) (E' := 38) (fr := (0, 0)) (fr' := (0, 0)) (fun e => by subst e; simp at hn) w (hp.mono (by simp))) ?_
  refine ws_l rfl rfl rfl rfl (rd_assign rfl) ?_
  refine ws_nil ?_
  refine qe_then ?_
  refine wc_keep [(4, _)] rfl ?_
  refine wc_ret ?_
  refine qe_body _ (.inl rfl) (res1 rfl (RV.tmp rfl)) ?_
  exact ret_end fun w hp hn ho => rfl
set_option maxRecDepth 100000 in
set_option maxHeartbeats 1000000 in
theorem isid_ret (b : Nat) (id : Id) (x : Id) (w : World) (hη : HpOK [(b, .cells (idC id) 38 (0, 0))] w) : Ret Try.prog 59 [idK x, ptr b] w [] (fun v _ => v = .bool (decide (x = id))) := by
  refine enter (n := 7) (args := [idK x, ptr b]) [] [(b, .cells (idC id) 38 (0, 0))] Try.func59 rfl rfl rfl hη (by simp) ?_
  refine wc_seq ?_
  refine wc_plain [(0, .x true), (1, .x true)] (by kernel_rfl) ?_
  refine ws_box rfl rfl rfl rfl ?_
  intro b2 hb2
  refine ws_l rfl rfl rfl rfl (rd_assign rfl) ?_
  refine ws_nil ?_
  refine qe_then ?_
  refine wc_seq ?_
  refine wc_plain [(0, .x true), (1, .x true), (2, .x true), (3, .x true)] (by kernel_rfl) ?_
  refine ws_l rfl rfl rfl rfl (rd_load rfl) ?_
  refine ws_l rfl rfl rfl rfl (rd_load rfl) ?_
  refine ws_lp _ rfl rfl rfl rfl (rd_eqid rfl rfl Try.underlying38 (by kernel_rfl)) ?_ ?_
  · intro h6
    refine ws_l rfl rfl rfl rfl (rd_assign rfl) ?_
    refine ws_nil ?_
    refine qe_then ?_
    refine wc_keep [(3, _)] rfl ?_
    refine wc_ret ?_
    refine qe_body _ (.inl rfl) (res1 rfl (RV.tmp rfl)) ?_
    exact ret_end fun w hp hn ho => by simp [*]
  · intro h6
    refine ws_l rfl rfl rfl rfl (rd_assign rfl) ?_
    refine ws_nil ?_
    refine qe_then ?_
    refine wc_keep [(3, _)] rfl ?_
    refine wc_ret ?_
    refine qe_body _ (.inl rfl) (res1 rfl (RV.tmp rfl)) ?_
    exact ret_end fun w hp hn ho => by simp [*]
set_option maxRecDepth 100000 in
set_option maxHeartbeats 1000000 in
theorem index_ret (v : Value) (ν : Heap) (xs : List ByteArray) (hsrc : Src ν v 1 xs.length (xs.map Value.string)) (hlen : xs.length < 1048576) (s : ByteArray) (w : World) (hν : HpOK ν w) (hnd : (ν.map Prod.fst).Nodup) : Ret Try.prog 96 [v, .string s] w [] (fun u _ => u = I (idxF s xs 0)) := by
  refine enter (n := 19) (args := [v, .string s]) [] ν Try.func96 rfl rfl rfl hν hnd ?_
  refine wc_seq ?_
  refine wc_plain [(0, .x true)] (by kernel_rfl) ?_
  refine ws_l rfl rfl rfl rfl (rd_assign rfl) ?_
  refine ws_nil ?_
  refine qe_then ?_
  refine wc_seq ?_
  refine wc_seq ?_
  refine wc_plain [(0, .x true), (1, .x true), (2, .x true)] (by kernel_rfl) ?_
  refine ws_l rfl rfl rfl rfl (rd_move rfl) ?_
  refine ws_l rfl rfl rfl rfl (rd_lenS hsrc rfl Try.underlying41) ?_
  refine ws_l rfl rfl rfl rfl (rd_move rfl) ?_
  refine ws_nil ?_
  refine qe_then ?_
  refine wc_block ?_
  refine wc_loop (fun mz ac w1 => ∃ (j : Nat), mz = xs.length - j ∧ (j ≤ xs.length) ∧ (idxF s (xs.drop j) j = idxF s xs 0) ∧ St 19 w [] [(0, v), (1, .string s), (6, v), (7, I xs.length), (8, I j)] ν ac w1) _ (fun ac w1 hs => ⟨0, rfl, (by omega), (by simp), st_sub hs _ rfl⟩) ?_
  rintro _ ac1 wl1 ⟨j, rfl, hj, hf, hs1⟩
  refine wc_at hs1 ?_
  refine wc_seq ?_
  refine wc_plain [(0, .x true)] (by kernel_rfl) ?_
  refine ws_lcmp rfl rfl rfl (rfl) (rfl) (rfl) ?_ ?_
  · intro h9
    refine ws_nil ?_
    refine qe_then ?_
    refine wc_seq ?_
    refine wc_true rfl ?_
    refine wc_skip ?_
    refine qe_then ?_
    refine wc_seq ?_
    refine wc_block ?_
    refine wc_seq ?_
    refine wc_plain [(0, .x true), (1, .x true)] (by kernel_rfl) ?_
    refine ws_l rfl rfl rfl rfl (rd_move rfl) ?_
    refine ws_l rfl rfl rfl rfl (rd_assign rfl) ?_
    refine ws_nil ?_
    refine qe_then ?_
    refine wc_seq ?_
    refine wc_plain [(0, .x true), (1, .x true), (2, .x true), (3, .x true), (4, .x true), (5, .x true)] (by kernel_rfl) ?_
    refine ws_l rfl rfl rfl rfl (rd_move rfl) ?_
    refine ws_l rfl rfl rfl rfl (rd_move rfl) ?_
    refine ws_l rfl rfl rfl rfl (rd_move rfl) ?_
    obtain ⟨bg, og, cg, csg, Eg, frg, rfl, hmg, hcg⟩ := Src.opened hsrc (by omega)
    have hmig : HM bg (.cells csg Eg frg) ν := ⟨hmg⟩
    obtain ⟨x, hx⟩ := at_ex (l := xs) (j := j) (by omega)
    have atx : GetAt csg (og + j * 1) (.string x) := ⟨by rw [Nat.mul_one]; exact hcg j _ (by simp [hx])⟩
    refine ws_l rfl rfl rfl rfl (rd_index (og + j * 1) rfl rfl Try.underlying41 Try.sizeOf9 ⟨by omega, by omega⟩ (by simp)) ?_
    refine ws_l rfl rfl rfl rfl (rd_load rfl) ?_
    refine ws_lp _ rfl rfl rfl rfl (rd_streq rfl rfl) ?_ ?_
    · intro h16
      refine ws_nil ?_
      refine qe_then ?_
      refine wc_true rfl ?_
      refine wc_seq ?_
      refine wc_plain [(0, .x true), (1, .x true)] (by kernel_rfl) ?_
      refine ws_l rfl rfl rfl rfl (rd_move rfl) ?_
      refine ws_l rfl rfl rfl rfl (rd_assign rfl) ?_
      refine ws_nil ?_
      refine qe_then ?_
      refine wc_ret ?_
      refine qe_block_ret ?_
      refine qe_then_ret ?_
      refine qe_then_ret ?_
      refine qe_block_ret ?_
      refine qe_then_ret ?_
      refine qe_body _ (.inl rfl) (res1 rfl (RV.tmp rfl)) ?_
      exact ret_end fun w hp hn ho => by rw [← hf]; simp [idxF, drop_at hx, *]
    · intro h16
      refine ws_nil ?_
      refine qe_then ?_
      refine wc_false rfl ?_
      refine wc_skip ?_
      refine qe_block ?_
      refine qe_then ?_
      refine wc_plain [(0, .x true), (1, .x true)] (by kernel_rfl) ?_
      refine ws_l rfl rfl rfl rfl (rd_arith (((j + 1 : Nat) : Int)) rfl rfl rfl (by rw [wrap_i64 _ (by omega) (by omega)]; omega)) ?_
      refine ws_l rfl rfl rfl rfl (rd_move rfl) ?_
      refine ws_nil ?_
      exact qe_loop fun ac2 w2 hs2 => ⟨_, by omega, j + 1, rfl, (by omega), (by rw [← hf, drop_at hx]; simp [idxF, *]), st_sub hs2 _ rfl⟩
  · intro h9
    refine ws_nil ?_
    refine qe_then ?_
    refine wc_seq ?_
    refine wc_false rfl ?_
    refine wc_exit ?_
    refine qe_then_exit ?_
    refine qe_then_exit ?_
    refine qe_block_exit ?_
    refine qe_then ?_
    refine wc_keep [] rfl ?_
    refine wc_seq ?_
    refine wc_plain [(0, .x true)] (by kernel_rfl) ?_
    refine ws_l rfl rfl rfl rfl (rd_assign rfl) ?_
    refine ws_nil ?_
    refine qe_then ?_
    refine wc_ret ?_
    refine qe_body _ (.inl rfl) (res1 rfl (RV.tmp rfl)) ?_
    exact ret_end fun w hp hn ho => by rw [← hf, List.drop_eq_nil_of_le (by omega)]; rfl
set_option maxRecDepth 100000 in
set_option maxHeartbeats 1000000 in
theorem contains_ret (v : Value) (ν : Heap) (xs : List ByteArray) (hsrc : Src ν v 1 xs.length (xs.map Value.string)) (hlen : xs.length < 1048576) (s : ByteArray) (w : World) (hν : HpOK ν w) (hnd : (ν.map Prod.fst).Nodup) : Ret Try.prog 90 [v, .string s] w [] (fun u _ => u = .bool (decide (s ∈ xs))) := by
  refine enter (n := 9) (args := [v, .string s]) [] ν Try.func90 rfl rfl rfl hν hnd ?_
  refine wc_seq ?_
  refine wc_plain [(0, .x true)] (by kernel_rfl) ?_
  refine ws_l rfl rfl rfl rfl (rd_assign rfl) ?_
  refine ws_nil ?_
  refine qe_then ?_
  refine wc_seq ?_
  refine wc_plain [(0, .x true), (1, .x true), (2, .x true), (3, .x true), (4, .x true)] (by kernel_rfl) ?_
  refine ws_l rfl rfl rfl rfl (rd_move rfl) ?_
  refine ws_l rfl rfl rfl rfl (rd_move rfl) ?_
  refine ws_callp rfl rfl rfl rfl rfl (En.go) (fun w hp hn ho => index_ret v ν xs hsrc hlen s w hp hn) ?_
  refine ws_lcmp rfl rfl rfl (rfl) (rfl) (rfl) ?_ ?_
  · intro h8
    refine ws_l rfl rfl rfl rfl (rd_assign rfl) ?_
    refine ws_nil ?_
    refine qe_then ?_
    refine wc_keep [(4, _)] rfl ?_
    refine wc_ret ?_
    refine qe_body _ (.inl rfl) (res1 rfl (RV.tmp rfl)) ?_
    exact ret_end fun w hp hn ho => by (try simp only [cmpP, ne_eq, Decidable.not_not] at *); simp only [← idxF_mem (k := 0), Int.ofNat_zero]; simp; omega
  · intro h8
    refine ws_l rfl rfl rfl rfl (rd_assign rfl) ?_
    refine ws_nil ?_
    refine qe_then ?_
    refine wc_keep [(4, _)] rfl ?_
    refine wc_ret ?_
    refine qe_body _ (.inl rfl) (res1 rfl (RV.tmp rfl)) ?_
    exact ret_end fun w hp hn ho => by (try simp only [cmpP, ne_eq, Decidable.not_not] at *); simp only [← idxF_mem (k := 0), Int.ofNat_zero]; simp; omega
set_option maxRecDepth 100000 in
set_option maxHeartbeats 1000000 in
theorem covers_ret (v u : Value) (ν : Heap) (xs ys : List ByteArray) (hsrc : Src ν v 1 xs.length (xs.map Value.string)) (hsrc2 : Src ν u 1 ys.length (ys.map Value.string)) (hlen : xs.length < 1048576) (hlen2 : ys.length < 1048576) (w : World) (hν : HpOK ν w) (hnd : (ν.map Prod.fst).Nodup) : Ret Try.prog 75 [v, u] w [] (fun r _ => r = .bool (decide (∀ s ∈ ys, s ∈ xs))) := by
  refine enter (n := 18) (args := [v, u]) [] ν Try.func75 rfl rfl rfl hν hnd ?_
  refine wc_seq ?_
  refine wc_plain [(0, .x true)] (by kernel_rfl) ?_
  refine ws_l rfl rfl rfl rfl (rd_assign rfl) ?_
  refine ws_nil ?_
  refine qe_then ?_
  refine wc_seq ?_
  refine wc_seq ?_
  refine wc_plain [(0, .x true), (1, .x true), (2, .x true)] (by kernel_rfl) ?_
  refine ws_l rfl rfl rfl rfl (rd_move rfl) ?_
  refine ws_l rfl rfl rfl rfl (rd_lenS hsrc2 rfl Try.underlying41) ?_
  refine ws_l rfl rfl rfl rfl (rd_move rfl) ?_
  refine ws_nil ?_
  refine qe_then ?_
  refine wc_block ?_
  refine wc_loop (fun mz ac w1 => ∃ (j : Nat), mz = ys.length - j ∧ (j ≤ ys.length) ∧ (∀ s ∈ ys.take j, s ∈ xs) ∧ St 18 w [] [(0, v), (7, u), (8, I ys.length), (9, I j)] ν ac w1) _ (fun ac w1 hs => ⟨0, rfl, (by omega), (by simp), st_sub hs _ rfl⟩) ?_
  rintro _ ac1 wl1 ⟨j, rfl, hj, hf, hs1⟩
  refine wc_at hs1 ?_
  refine wc_seq ?_
  refine wc_plain [(0, .x true)] (by kernel_rfl) ?_
  refine ws_lcmp rfl rfl rfl (rfl) (rfl) (rfl) ?_ ?_
  · intro h10
    refine ws_nil ?_
    refine qe_then ?_
    refine wc_seq ?_
    refine wc_true rfl ?_
    refine wc_skip ?_
    refine qe_then ?_
    refine wc_seq ?_
    refine wc_block ?_
    refine wc_seq ?_
    refine wc_plain [(0, .x true), (1, .x true), (2, .x true)] (by kernel_rfl) ?_
    obtain ⟨bg, og, cg, csg, Eg, frg, rfl, hmg, hcg⟩ := Src.opened hsrc2 (by omega)
    have hmig : HM bg (.cells csg Eg frg) ν := ⟨hmg⟩
    obtain ⟨x, hx⟩ := at_ex (l := ys) (j := j) (by omega)
    have atx : GetAt csg (og + j * 1) (.string x) := ⟨by rw [Nat.mul_one]; exact hcg j _ (by simp [hx])⟩
    refine ws_l rfl rfl rfl rfl (rd_index (og + j * 1) rfl rfl Try.underlying41 Try.sizeOf9 ⟨by omega, by omega⟩ (by simp)) ?_
    refine ws_l rfl rfl rfl rfl (rd_load rfl) ?_
    refine ws_l rfl rfl rfl rfl (rd_assign rfl) ?_
    refine ws_nil ?_
    refine qe_then ?_
    refine wc_seq ?_
    refine wc_plain [(0, .x true), (1, .x true), (2, .x true), (3, .x true)] (by kernel_rfl) ?_
    refine ws_l rfl rfl rfl rfl (rd_move rfl) ?_
    refine ws_l rfl rfl rfl rfl (rd_move rfl) ?_
    refine ws_callb (decide _) rfl rfl rfl rfl rfl (En.go) (fun w hp hn ho => contains_ret v ν xs hsrc hlen x w (hp.mono (by simp)) hnd) ?_ ?_
    · intro h15
      refine ws_l rfl rfl rfl rfl (rd_not rfl) ?_
      refine ws_nil ?_
      refine qe_then ?_
      refine wc_false rfl ?_
      refine wc_skip ?_
      refine qe_block ?_
      refine qe_then ?_
      refine wc_plain [(0, .x true), (1, .x true)] (by kernel_rfl) ?_
      refine ws_l rfl rfl rfl rfl (rd_arith (((j + 1 : Nat) : Int)) rfl rfl rfl (by rw [wrap_i64 _ (by omega) (by omega)]; omega)) ?_
      refine ws_l rfl rfl rfl rfl (rd_move rfl) ?_
      refine ws_nil ?_
      exact qe_loop fun ac2 w2 hs2 => ⟨_, by omega, j + 1, rfl, (by omega), (by rw [take_at hx]; intro s hs; rcases List.mem_append.1 hs with hs | hs; exact hf s hs; rw [List.mem_singleton.1 hs]; exact of_decide_eq_true h15), st_sub hs2 _ rfl⟩
    · intro h15
      refine ws_l rfl rfl rfl rfl (rd_not rfl) ?_
      refine ws_nil ?_
      refine qe_then ?_
      refine wc_true rfl ?_
      refine wc_seq ?_
      refine wc_plain [(0, .x true)] (by kernel_rfl) ?_
      refine ws_l rfl rfl rfl rfl (rd_assign rfl) ?_
      refine ws_nil ?_
      refine qe_then ?_
      refine wc_ret ?_
      refine qe_block_ret ?_
      refine qe_then_ret ?_
      refine qe_then_ret ?_
      refine qe_block_ret ?_
      refine qe_then_ret ?_
      refine qe_body _ (.inl rfl) (res1 rfl (RV.tmp rfl)) ?_
      exact ret_end fun w hp hn ho => by have := of_decide_eq_false h15; simp; exact ⟨x, List.mem_of_getElem? hx, this⟩
  · intro h10
    refine ws_nil ?_
    refine qe_then ?_
    refine wc_seq ?_
    refine wc_false rfl ?_
    refine wc_exit ?_
    refine qe_then_exit ?_
    refine qe_then_exit ?_
    refine qe_block_exit ?_
    refine qe_then ?_
    refine wc_keep [] rfl ?_
    refine wc_seq ?_
    refine wc_plain [(0, .x true)] (by kernel_rfl) ?_
    refine ws_l rfl rfl rfl rfl (rd_assign rfl) ?_
    refine ws_nil ?_
    refine qe_then ?_
    refine wc_ret ?_
    refine qe_body _ (.inl rfl) (res1 rfl (RV.tmp rfl)) ?_
    exact ret_end fun w hp hn ho => by rw [List.take_of_length_le (by omega)] at hf; simp; exact hf
set_option maxRecDepth 100000 in
set_option maxHeartbeats 1000000 in
theorem same_ret (x y : RR) (g g2 : GV) (ν : Heap) (hg : GOK ν g x.grp) (hg2 : GOK ν g2 y.grp) (w : World) (hν : HpOK ν w) (hnd : (ν.map Prod.fst).Nodup) : Ret Try.prog 56 [.agg (rowC x g), .agg (rowC y g2)] w [] (fun v _ => v = .bool (decide (sameB x y))) := by
  refine enter (n := 24) (args := [.agg (rowC x g), .agg (rowC y g2)]) [] ν Try.func56 rfl rfl rfl hν hnd ?_
  refine wc_seq ?_
  refine wc_plain [(0, .x true), (1, .x true), (2, .x true)] (by kernel_rfl) ?_
  refine ws_box rfl rfl rfl rfl ?_
  intro b2 hb2
  refine ws_box rfl rfl rfl rfl ?_
  intro b3 hb3
  refine ws_l rfl rfl rfl rfl (rd_assign rfl) ?_
  refine ws_nil ?_
  refine qe_then ?_
  refine wc_seq ?_
  refine wc_plain [(0, .x true), (1, .x true), (2, .x true), (3, .x true), (4, .x true), (5, .x true), (6, .x true), (7, .x true), (8, .x true), (9, .x true), (10, .x true), (11, .x true), (12, .x true), (13, .x true), (14, .x true), (15, .x true), (16, .x true), (17, .x true), (18, .x true), (19, .x true)] (by kernel_rfl) ?_
  refine ws_l rfl rfl rfl rfl (rd_fieldAddr rfl) ?_
  refine ws_l rfl rfl rfl rfl (rd_load rfl) ?_
  refine ws_l rfl rfl rfl rfl (rd_fieldAddr rfl) ?_
  refine ws_l rfl rfl rfl rfl (rd_load rfl) ?_
  refine ws_lp _ rfl rfl rfl rfl (rd_neid rfl rfl Try.underlying38 (by kernel_rfl)) ?_ ?_
  · intro h9
    refine ws_l rfl rfl rfl rfl (rd_move rfl) ?_
    refine ws_l rfl rfl rfl rfl (rd_fieldAddr rfl) ?_
    refine ws_l rfl rfl rfl rfl (rd_load rfl) ?_
    refine ws_l rfl rfl rfl rfl (rd_fieldAddr rfl) ?_
    refine ws_l rfl rfl rfl rfl (rd_load rfl) ?_
    refine ws_lp _ rfl rfl rfl rfl (rd_eqid rfl rfl Try.underlying40 (by kernel_rfl)) ?_ ?_
    · intro h15
      refine ws_l rfl rfl rfl rfl (rd_pick_t rfl rfl) ?_
      refine ws_l rfl rfl rfl rfl (rd_move rfl) ?_
      refine ws_l rfl rfl rfl rfl (rd_fieldAddr rfl) ?_
      refine ws_l rfl rfl rfl rfl (rd_load rfl) ?_
      refine ws_l rfl rfl rfl rfl (rd_fieldAddr rfl) ?_
      refine ws_l rfl rfl rfl rfl (rd_load rfl) ?_
      refine ws_callb (decide _) rfl rfl rfl rfl rfl (En.go) (fun w hp hn ho => covers_ret g2.v g.v ν _ _ hg2.names hg.names (names_lt _) (names_lt _) w (hp.mono (fun q hq => by simp [hq])) hnd) ?_ ?_
      · intro h22
        refine ws_l rfl rfl rfl rfl (rd_pick_t rfl rfl) ?_
        refine ws_l rfl rfl rfl rfl (rd_assign rfl) ?_
        refine ws_nil ?_
        refine qe_then ?_
        refine wc_keep [(4, _)] rfl ?_
        refine wc_ret ?_
        refine qe_body _ (.inl rfl) (res1 rfl (RV.tmp rfl)) ?_
        exact ret_end fun w hp hn ho => by (try simp only [cmpP, ne_eq, Decidable.not_not] at *); (try simp only [decide_eq_true_eq, decide_eq_false_iff_not, ordF_lt, u8_eq, names_sub] at *); clear hp hn ho; first | exact bt (by simp only [sameB]; grind) | exact bf (by simp only [sameB]; grind)
      · intro h22
        refine ws_l rfl rfl rfl rfl (rd_pick_t rfl rfl) ?_
        refine ws_l rfl rfl rfl rfl (rd_assign rfl) ?_
        refine ws_nil ?_
        refine qe_then ?_
        refine wc_keep [(4, _)] rfl ?_
        refine wc_ret ?_
        refine qe_body _ (.inl rfl) (res1 rfl (RV.tmp rfl)) ?_
        exact ret_end fun w hp hn ho => by (try simp only [cmpP, ne_eq, Decidable.not_not] at *); (try simp only [decide_eq_true_eq, decide_eq_false_iff_not, ordF_lt, u8_eq, names_sub] at *); clear hp hn ho; first | exact bt (by simp only [sameB]; grind) | exact bf (by simp only [sameB]; grind)
    · intro h15
      refine ws_l rfl rfl rfl rfl (rd_pick_t rfl rfl) ?_
      refine ws_l rfl rfl rfl rfl (rd_move rfl) ?_
      refine ws_xskip rfl rfl rfl rfl ?_
      refine ws_xskip rfl rfl rfl rfl ?_
      refine ws_xskip rfl rfl rfl rfl ?_
      refine ws_xskip rfl rfl rfl rfl ?_
      refine ws_xskip rfl rfl rfl rfl ?_
      refine ws_l rfl rfl rfl rfl (rd_pick_f rfl rfl) ?_
      refine ws_l rfl rfl rfl rfl (rd_assign rfl) ?_
      refine ws_nil ?_
      refine qe_then ?_
      refine wc_keep [(4, _)] rfl ?_
      refine wc_ret ?_
      refine qe_body _ (.inl rfl) (res1 rfl (RV.tmp rfl)) ?_
      exact ret_end fun w hp hn ho => by (try simp only [cmpP, ne_eq, Decidable.not_not] at *); (try simp only [decide_eq_true_eq, decide_eq_false_iff_not, ordF_lt, u8_eq, names_sub] at *); clear hp hn ho; first | exact bt (by simp only [sameB]; grind) | exact bf (by simp only [sameB]; grind)
  · intro h9
    refine ws_l rfl rfl rfl rfl (rd_move rfl) ?_
    refine ws_xskip rfl rfl rfl rfl ?_
    refine ws_xskip rfl rfl rfl rfl ?_
    refine ws_xskip rfl rfl rfl rfl ?_
    refine ws_xskip rfl rfl rfl rfl ?_
    refine ws_xskip rfl rfl rfl rfl ?_
    refine ws_l rfl rfl rfl rfl (rd_pick_f rfl rfl) ?_
    refine ws_l rfl rfl rfl rfl (rd_move rfl) ?_
    refine ws_xskip rfl rfl rfl rfl ?_
    refine ws_xskip rfl rfl rfl rfl ?_
    refine ws_xskip rfl rfl rfl rfl ?_
    refine ws_xskip rfl rfl rfl rfl ?_
    refine ws_xskip rfl rfl rfl rfl ?_
    refine ws_l rfl rfl rfl rfl (rd_pick_f rfl rfl) ?_
    refine ws_l rfl rfl rfl rfl (rd_assign rfl) ?_
    refine ws_nil ?_
    refine qe_then ?_
    refine wc_keep [(4, _)] rfl ?_
    refine wc_ret ?_
    refine qe_body _ (.inl rfl) (res1 rfl (RV.tmp rfl)) ?_
    exact ret_end fun w hp hn ho => by (try simp only [cmpP, ne_eq, Decidable.not_not] at *); (try simp only [decide_eq_true_eq, decide_eq_false_iff_not, ordF_lt, u8_eq, names_sub] at *); clear hp hn ho; first | exact bt (by simp only [sameB]; grind) | exact bf (by simp only [sameB]; grind)
set_option maxRecDepth 100000 in
set_option maxHeartbeats 1000000 in
theorem order_ret (x y : RR) (g g2 : GV) (w : World) : Ret Try.prog 55 [.agg (rowC x g), .agg (rowC y g2)] w [] (fun v _ => v = I (ordF x y)) := by
  refine enter (n := 17) (args := [.agg (rowC x g), .agg (rowC y g2)]) [] [] Try.func55 rfl rfl rfl (HpOK.nil w) (by simp) ?_
  refine wc_seq ?_
  refine wc_plain [(0, .x true), (1, .x true), (2, .x true)] (by kernel_rfl) ?_
  refine ws_box rfl rfl rfl rfl ?_
  intro b2 hb2
  refine ws_box rfl rfl rfl rfl ?_
  intro b3 hb3
  refine ws_l rfl rfl rfl rfl (rd_assign rfl) ?_
  refine ws_nil ?_
  refine qe_then ?_
  refine wc_seq ?_
  refine wc_drawn mixedT _ (fun _ h => h) [(0, .r), (1, .r), (2, .r), (3, .r), (5, .r), (6, .r), (7, .r), (8, .r), (4, .x false), (9, .x true), (10, .x true), (11, .x true), (12, .x true)] (by kernel_rfl) ?_
  refine ws_r rfl rfl rfl rfl (rd_fieldAddr rfl) ?_
  refine ws_r rfl rfl rfl rfl (rd_load rfl) ?_
  refine ws_r rfl rfl rfl rfl (rd_fieldAddr rfl) ?_
  refine ws_r rfl rfl rfl rfl (rd_load rfl) ?_
  refine ws_r rfl rfl rfl rfl (rd_fieldAddr rfl) ?_
  refine ws_r rfl rfl rfl rfl (rd_sliceArr rfl Try.underlying38 rfl Try.sizeOf5) ?_
  refine ws_r rfl rfl rfl rfl (rd_fieldAddr rfl) ?_
  refine ws_r rfl rfl rfl rfl (rd_sliceArr rfl Try.underlying38 rfl Try.sizeOf5) ?_
  refine ws_callp rfl rfl rfl rfl rfl (En.go) (fun w hp hn ho => cmp_ret _ _ w) ?_
  refine ws_late rfl ?_
  refine ws_callp rfl rfl rfl rfl rfl (En.go) (fun w hp hn ho => bytescmp_ret (b := b2) (b' := b3) (cs := rowC x g) (cs' := rowC y g2) (E := 43) (E' := 43) (fr := (0, 0)) (fr' := (0, 0)) (fun e => by subst e; simp at hn) w (hp.mono (by simp))) ?_
  refine ws_buildSlice rfl rfl rfl rfl ?_
  intro b15 hb15
  refine ws_callp rfl rfl rfl rfl rfl (En.go) (fun w hp hn ho => or_ret b15 [cmpF y.date x.date, Lib.compareBytes x.id.toList y.id.toList] (by simp) w (hp.mono (by simp))) ?_
  refine ws_l rfl rfl rfl rfl (rd_assign rfl) ?_
  refine ws_nil ?_
  refine qe_then ?_
  refine wc_keep [(4, _)] rfl ?_
  refine wc_ret ?_
  refine qe_body _ (.inl rfl) (res1 rfl (RV.tmp rfl)) ?_
  exact ret_end fun w hp hn ho => rfl
set_option maxRecDepth 100000 in
set_option maxHeartbeats 1000000 in
theorem outdoes_ret (x y : RR) (g g2 : GV) (ν : Heap) (hg : GOK ν g x.grp) (hg2 : GOK ν g2 y.grp) (w : World) (hν : HpOK ν w) (hnd : (ν.map Prod.fst).Nodup) : Ret Try.prog 28 [.agg (rowC x g), .agg (rowC y g2)] w [] (fun v _ => v = .bool (decide (outB x y))) := by
  refine enter (n := 36) (args := [.agg (rowC x g), .agg (rowC y g2)]) [] ν Try.func28 rfl rfl rfl hν hnd ?_
  refine wc_seq ?_
  refine wc_plain [(0, .x true), (1, .x true), (2, .x true)] (by kernel_rfl) ?_
  refine ws_box rfl rfl rfl rfl ?_
  intro b2 hb2
  refine ws_box rfl rfl rfl rfl ?_
  intro b3 hb3
  refine ws_l rfl rfl rfl rfl (rd_assign rfl) ?_
  refine ws_nil ?_
  refine qe_then ?_
  refine wc_seq ?_
  refine wc_plain [(0, .x true), (1, .x true), (2, .x true), (3, .x true), (4, .x true), (5, .x true), (6, .x true), (7, .x true), (8, .x true), (9, .x true), (10, .x true), (11, .x true), (12, .x true), (13, .x true), (14, .x true), (15, .x true), (16, .x true), (17, .x true), (18, .x true)] (by kernel_rfl) ?_
  refine ws_l rfl rfl rfl rfl (rd_fieldAddr rfl) ?_
  refine ws_l rfl rfl rfl rfl (rd_load rfl) ?_
  refine ws_l rfl rfl rfl rfl (rd_build rfl) ?_
  refine ws_lp _ rfl rfl rfl rfl (rd_neid rfl rfl Try.underlying38 (by kernel_rfl)) ?_ ?_
  · intro h9
    refine ws_l rfl rfl rfl rfl (rd_move rfl) ?_
    refine ws_l rfl rfl rfl rfl (rd_fieldAddr rfl) ?_
    refine ws_l rfl rfl rfl rfl (rd_load rfl) ?_
    refine ws_l rfl rfl rfl rfl (rd_fieldAddr rfl) ?_
    refine ws_l rfl rfl rfl rfl (rd_load rfl) ?_
    refine ws_lp _ rfl rfl rfl rfl (rd_eqid rfl rfl Try.underlying38 (by kernel_rfl)) ?_ ?_
    · intro h15
      refine ws_l rfl rfl rfl rfl (rd_pick_t rfl rfl) ?_
      refine ws_l rfl rfl rfl rfl (rd_move rfl) ?_
      refine ws_l rfl rfl rfl rfl (rd_fieldAddr rfl) ?_
      refine ws_l rfl rfl rfl rfl (rd_load rfl) ?_
      refine ws_l rfl rfl rfl rfl (rd_fieldAddr rfl) ?_
      refine ws_l rfl rfl rfl rfl (rd_load rfl) ?_
      refine ws_lp _ rfl rfl rfl rfl (rd_neid rfl rfl Try.underlying38 (by kernel_rfl)) ?_ ?_
      · intro h22
        refine ws_l rfl rfl rfl rfl (rd_pick_t rfl rfl) ?_
        refine ws_l rfl rfl rfl rfl (rd_assign rfl) ?_
        refine ws_nil ?_
        refine qe_then ?_
        refine wc_keep [(2, _), (3, _), (4, _), (5, _)] rfl ?_
        refine wc_seq ?_
        refine wc_plain [(0, .x true), (1, .x true), (2, .x true), (3, .x true), (4, .x true), (5, .x true), (6, .x true), (7, .x true), (8, .x true), (9, .x true), (10, .x true), (11, .x true), (12, .x true)] (by kernel_rfl) ?_
        refine ws_l rfl rfl rfl rfl (rd_move rfl) ?_
        refine ws_l rfl rfl rfl rfl (rd_move rfl) ?_
        refine ws_l rfl rfl rfl rfl (rd_load rfl) ?_
        refine ws_l rfl rfl rfl rfl (rd_load rfl) ?_
        refine ws_callb (decide _) rfl rfl rfl rfl rfl (En.go) (fun w hp hn ho => same_ret y x g2 g ν hg2 hg w (hp.mono (fun q hq => by simp [hq])) hnd) ?_ ?_
        · intro h28
          refine ws_l rfl rfl rfl rfl (rd_pick_t rfl rfl) ?_
          refine ws_l rfl rfl rfl rfl (rd_move rfl) ?_
          refine ws_l rfl rfl rfl rfl (rd_load rfl) ?_
          refine ws_l rfl rfl rfl rfl (rd_load rfl) ?_
          refine ws_callp rfl rfl rfl rfl rfl (En.go) (fun w hp hn ho => order_ret x y g g2 w) ?_
          refine ws_lcmp rfl rfl rfl (rfl) (rfl) (rfl) ?_ ?_
          · intro h34
            refine ws_l rfl rfl rfl rfl (rd_pick_t rfl rfl) ?_
            refine ws_l rfl rfl rfl rfl (rd_assign rfl) ?_
            refine ws_nil ?_
            refine qe_then ?_
            refine wc_keep [(4, _)] rfl ?_
            refine wc_ret ?_
            refine qe_body _ (.inl rfl) (res1 rfl (RV.tmp rfl)) ?_
            exact ret_end fun w hp hn ho => by (try simp only [cmpP, ne_eq, Decidable.not_not] at *); (try simp only [decide_eq_true_eq, decide_eq_false_iff_not, ordF_lt, u8_eq, names_sub] at *); clear hp hn ho; (try simp only [sameB] at *); first | exact bt (by simp only [outB, sameB]; grind) | exact bf (by simp only [outB, sameB]; grind)
          · intro h34
            refine ws_l rfl rfl rfl rfl (rd_pick_t rfl rfl) ?_
            refine ws_l rfl rfl rfl rfl (rd_assign rfl) ?_
            refine ws_nil ?_
            refine qe_then ?_
            refine wc_keep [(4, _)] rfl ?_
            refine wc_ret ?_
            refine qe_body _ (.inl rfl) (res1 rfl (RV.tmp rfl)) ?_
            exact ret_end fun w hp hn ho => by (try simp only [cmpP, ne_eq, Decidable.not_not] at *); (try simp only [decide_eq_true_eq, decide_eq_false_iff_not, ordF_lt, u8_eq, names_sub] at *); clear hp hn ho; (try simp only [sameB] at *); first | exact bt (by simp only [outB, sameB]; grind) | exact bf (by simp only [outB, sameB]; grind)
        · intro h28
          refine ws_l rfl rfl rfl rfl (rd_pick_t rfl rfl) ?_
          refine ws_l rfl rfl rfl rfl (rd_move rfl) ?_
          refine ws_xskip rfl rfl rfl rfl ?_
          refine ws_xskip rfl rfl rfl rfl ?_
          refine ws_xskip rfl rfl rfl rfl ?_
          refine ws_xskip rfl rfl rfl rfl ?_
          refine ws_l rfl rfl rfl rfl (rd_pick_f rfl rfl) ?_
          refine ws_l rfl rfl rfl rfl (rd_assign rfl) ?_
          refine ws_nil ?_
          refine qe_then ?_
          refine wc_keep [(4, _)] rfl ?_
          refine wc_ret ?_
          refine qe_body _ (.inl rfl) (res1 rfl (RV.tmp rfl)) ?_
          exact ret_end fun w hp hn ho => by (try simp only [cmpP, ne_eq, Decidable.not_not] at *); (try simp only [decide_eq_true_eq, decide_eq_false_iff_not, ordF_lt, u8_eq, names_sub] at *); clear hp hn ho; (try simp only [sameB] at *); first | exact bt (by simp only [outB, sameB]; grind) | exact bf (by simp only [outB, sameB]; grind)
      · intro h22
        refine ws_l rfl rfl rfl rfl (rd_pick_t rfl rfl) ?_
        refine ws_l rfl rfl rfl rfl (rd_assign rfl) ?_
        refine ws_nil ?_
        refine qe_then ?_
        refine wc_keep [(2, _), (3, _), (4, _), (5, _)] rfl ?_
        refine wc_seq ?_
        refine wc_plain [(0, .x true), (1, .x true), (2, .x true), (3, .x true), (4, .x true), (5, .x true), (6, .x true), (7, .x true), (8, .x true), (9, .x true), (10, .x true), (11, .x true), (12, .x true)] (by kernel_rfl) ?_
        refine ws_l rfl rfl rfl rfl (rd_move rfl) ?_
        refine ws_l rfl rfl rfl rfl (rd_move rfl) ?_
        refine ws_xskip rfl rfl rfl rfl ?_
        refine ws_xskip rfl rfl rfl rfl ?_
        refine ws_xskip rfl rfl rfl rfl ?_
        refine ws_l rfl rfl rfl rfl (rd_pick_f rfl rfl) ?_
        refine ws_l rfl rfl rfl rfl (rd_move rfl) ?_
        refine ws_xskip rfl rfl rfl rfl ?_
        refine ws_xskip rfl rfl rfl rfl ?_
        refine ws_xskip rfl rfl rfl rfl ?_
        refine ws_xskip rfl rfl rfl rfl ?_
        refine ws_l rfl rfl rfl rfl (rd_pick_f rfl rfl) ?_
        refine ws_l rfl rfl rfl rfl (rd_assign rfl) ?_
        refine ws_nil ?_
        refine qe_then ?_
        refine wc_keep [(4, _)] rfl ?_
        refine wc_ret ?_
        refine qe_body _ (.inl rfl) (res1 rfl (RV.tmp rfl)) ?_
        exact ret_end fun w hp hn ho => by (try simp only [cmpP, ne_eq, Decidable.not_not] at *); (try simp only [decide_eq_true_eq, decide_eq_false_iff_not, ordF_lt, u8_eq, names_sub] at *); clear hp hn ho; (try simp only [sameB] at *); first | exact bt (by simp only [outB, sameB]; grind) | exact bf (by simp only [outB, sameB]; grind)
    · intro h15
      refine ws_l rfl rfl rfl rfl (rd_pick_t rfl rfl) ?_
      refine ws_l rfl rfl rfl rfl (rd_move rfl) ?_
      refine ws_xskip rfl rfl rfl rfl ?_
      refine ws_xskip rfl rfl rfl rfl ?_
      refine ws_xskip rfl rfl rfl rfl ?_
      refine ws_xskip rfl rfl rfl rfl ?_
      refine ws_xskip rfl rfl rfl rfl ?_
      refine ws_l rfl rfl rfl rfl (rd_pick_f rfl rfl) ?_
      refine ws_l rfl rfl rfl rfl (rd_assign rfl) ?_
      refine ws_nil ?_
      refine qe_then ?_
      refine wc_keep [(2, _), (3, _), (4, _), (5, _)] rfl ?_
      refine wc_seq ?_
      refine wc_plain [(0, .x true), (1, .x true), (2, .x true), (3, .x true), (4, .x true), (5, .x true), (6, .x true), (7, .x true), (8, .x true), (9, .x true), (10, .x true), (11, .x true), (12, .x true)] (by kernel_rfl) ?_
      refine ws_l rfl rfl rfl rfl (rd_move rfl) ?_
      refine ws_l rfl rfl rfl rfl (rd_move rfl) ?_
      refine ws_xskip rfl rfl rfl rfl ?_
      refine ws_xskip rfl rfl rfl rfl ?_
      refine ws_xskip rfl rfl rfl rfl ?_
      refine ws_l rfl rfl rfl rfl (rd_pick_f rfl rfl) ?_
      refine ws_l rfl rfl rfl rfl (rd_move rfl) ?_
      refine ws_xskip rfl rfl rfl rfl ?_
      refine ws_xskip rfl rfl rfl rfl ?_
      refine ws_xskip rfl rfl rfl rfl ?_
      refine ws_xskip rfl rfl rfl rfl ?_
      refine ws_l rfl rfl rfl rfl (rd_pick_f rfl rfl) ?_
      refine ws_l rfl rfl rfl rfl (rd_assign rfl) ?_
      refine ws_nil ?_
      refine qe_then ?_
      refine wc_keep [(4, _)] rfl ?_
      refine wc_ret ?_
      refine qe_body _ (.inl rfl) (res1 rfl (RV.tmp rfl)) ?_
      exact ret_end fun w hp hn ho => by (try simp only [cmpP, ne_eq, Decidable.not_not] at *); (try simp only [decide_eq_true_eq, decide_eq_false_iff_not, ordF_lt, u8_eq, names_sub] at *); clear hp hn ho; (try simp only [sameB] at *); first | exact bt (by simp only [outB, sameB]; grind) | exact bf (by simp only [outB, sameB]; grind)
  · intro h9
    refine ws_l rfl rfl rfl rfl (rd_move rfl) ?_
    refine ws_xskip rfl rfl rfl rfl ?_
    refine ws_xskip rfl rfl rfl rfl ?_
    refine ws_xskip rfl rfl rfl rfl ?_
    refine ws_xskip rfl rfl rfl rfl ?_
    refine ws_xskip rfl rfl rfl rfl ?_
    refine ws_l rfl rfl rfl rfl (rd_pick_f rfl rfl) ?_
    refine ws_l rfl rfl rfl rfl (rd_move rfl) ?_
    refine ws_xskip rfl rfl rfl rfl ?_
    refine ws_xskip rfl rfl rfl rfl ?_
    refine ws_xskip rfl rfl rfl rfl ?_
    refine ws_xskip rfl rfl rfl rfl ?_
    refine ws_xskip rfl rfl rfl rfl ?_
    refine ws_l rfl rfl rfl rfl (rd_pick_f rfl rfl) ?_
    refine ws_l rfl rfl rfl rfl (rd_assign rfl) ?_
    refine ws_nil ?_
    refine qe_then ?_
    refine wc_keep [(2, _), (3, _), (4, _), (5, _)] rfl ?_
    refine wc_seq ?_
    refine wc_plain [(0, .x true), (1, .x true), (2, .x true), (3, .x true), (4, .x true), (5, .x true), (6, .x true), (7, .x true), (8, .x true), (9, .x true), (10, .x true), (11, .x true), (12, .x true)] (by kernel_rfl) ?_
    refine ws_l rfl rfl rfl rfl (rd_move rfl) ?_
    refine ws_l rfl rfl rfl rfl (rd_move rfl) ?_
    refine ws_xskip rfl rfl rfl rfl ?_
    refine ws_xskip rfl rfl rfl rfl ?_
    refine ws_xskip rfl rfl rfl rfl ?_
    refine ws_l rfl rfl rfl rfl (rd_pick_f rfl rfl) ?_
    refine ws_l rfl rfl rfl rfl (rd_move rfl) ?_
    refine ws_xskip rfl rfl rfl rfl ?_
    refine ws_xskip rfl rfl rfl rfl ?_
    refine ws_xskip rfl rfl rfl rfl ?_
    refine ws_xskip rfl rfl rfl rfl ?_
    refine ws_l rfl rfl rfl rfl (rd_pick_f rfl rfl) ?_
    refine ws_l rfl rfl rfl rfl (rd_assign rfl) ?_
    refine ws_nil ?_
    refine qe_then ?_
    refine wc_keep [(4, _)] rfl ?_
    refine wc_ret ?_
    refine qe_body _ (.inl rfl) (res1 rfl (RV.tmp rfl)) ?_
    exact ret_end fun w hp hn ho => by (try simp only [cmpP, ne_eq, Decidable.not_not] at *); (try simp only [decide_eq_true_eq, decide_eq_false_iff_not, ordF_lt, u8_eq, names_sub] at *); clear hp hn ho; (try simp only [sameB] at *); first | exact bt (by simp only [outB, sameB]; grind) | exact bf (by simp only [outB, sameB]; grind)
set_option maxRecDepth 100000 in
set_option maxHeartbeats 1000000 in
theorem valid_ret (x y : RR) (g g2 : GV) (ν : Heap) (hg : GOK ν g x.grp) (hg2 : GOK ν g2 y.grp) (w : World) (hν : HpOK ν w) (hnd : (ν.map Prod.fst).Nodup) : Ret Try.prog 27 [.agg (rowC x g), .agg (rowC y g2)] w [] (fun v _ => v = .bool (decide (valB x y))) := by
  refine enter (n := 28) (args := [.agg (rowC x g), .agg (rowC y g2)]) [] ν Try.func27 rfl rfl rfl hν hnd ?_
  refine wc_seq ?_
  refine wc_plain [(0, .x true), (1, .x true), (2, .x true)] (by kernel_rfl) ?_
  refine ws_box rfl rfl rfl rfl ?_
  intro b2 hb2
  refine ws_box rfl rfl rfl rfl ?_
  intro b3 hb3
  refine ws_l rfl rfl rfl rfl (rd_assign rfl) ?_
  refine ws_nil ?_
  refine qe_then ?_
  refine wc_seq ?_
  refine wc_plain [(0, .x true), (1, .x true), (2, .x true), (3, .x true), (4, .x true), (5, .x true), (6, .x true), (7, .x true), (8, .x true), (9, .x true), (10, .x true), (11, .x true), (12, .x true), (13, .x true), (14, .x true), (15, .x true), (16, .x true), (17, .x true), (18, .x true), (19, .x true), (20, .x true), (21, .x true), (22, .x true), (23, .x true)] (by kernel_rfl) ?_
  refine ws_l rfl rfl rfl rfl (rd_fieldAddr rfl) ?_
  refine ws_l rfl rfl rfl rfl (rd_load rfl) ?_
  refine ws_l rfl rfl rfl rfl (rd_build rfl) ?_
  refine ws_lp _ rfl rfl rfl rfl (rd_neid rfl rfl Try.underlying38 (by kernel_rfl)) ?_ ?_
  · intro h8
    refine ws_l rfl rfl rfl rfl (rd_move rfl) ?_
    refine ws_l rfl rfl rfl rfl (rd_fieldAddr rfl) ?_
    refine ws_l rfl rfl rfl rfl (rd_load rfl) ?_
    refine ws_l rfl rfl rfl rfl (rd_fieldAddr rfl) ?_
    refine ws_l rfl rfl rfl rfl (rd_load rfl) ?_
    refine ws_lp _ rfl rfl rfl rfl (rd_eqid rfl rfl Try.underlying38 (by kernel_rfl)) ?_ ?_
    · intro h14
      refine ws_l rfl rfl rfl rfl (rd_pick_t rfl rfl) ?_
      refine ws_l rfl rfl rfl rfl (rd_move rfl) ?_
      refine ws_l rfl rfl rfl rfl (rd_load rfl) ?_
      refine ws_l rfl rfl rfl rfl (rd_load rfl) ?_
      refine ws_callb (decide _) rfl rfl rfl rfl rfl (En.go) (fun w hp hn ho => same_ret x y g g2 ν hg hg2 w (hp.mono (fun q hq => by simp [hq])) hnd) ?_ ?_
      · intro h19
        refine ws_l rfl rfl rfl rfl (rd_pick_t rfl rfl) ?_
        refine ws_l rfl rfl rfl rfl (rd_move rfl) ?_
        refine ws_l rfl rfl rfl rfl (rd_fieldAddr rfl) ?_
        refine ws_l rfl rfl rfl rfl (rd_load rfl) ?_
        refine ws_l rfl rfl rfl rfl (rd_fieldAddr rfl) ?_
        refine ws_l rfl rfl rfl rfl (rd_load rfl) ?_
        refine ws_lcmp rfl rfl rfl (rfl) (rfl) (rfl) ?_ ?_
        · intro h26
          refine ws_l rfl rfl rfl rfl (rd_pick_t rfl rfl) ?_
          refine ws_l rfl rfl rfl rfl (rd_assign rfl) ?_
          refine ws_nil ?_
          refine qe_then ?_
          refine wc_keep [(4, _)] rfl ?_
          refine wc_ret ?_
          refine qe_body _ (.inl rfl) (res1 rfl (RV.tmp rfl)) ?_
          exact ret_end fun w hp hn ho => by (try simp only [cmpP, ne_eq, Decidable.not_not] at *); (try simp only [decide_eq_true_eq, decide_eq_false_iff_not, ordF_lt, u8_eq, names_sub] at *); clear hp hn ho; (try simp only [sameB] at *); first | exact bt (by simp only [valB, sameB]; grind) | exact bf (by simp only [valB, sameB]; grind)
        · intro h26
          refine ws_l rfl rfl rfl rfl (rd_pick_t rfl rfl) ?_
          refine ws_l rfl rfl rfl rfl (rd_assign rfl) ?_
          refine ws_nil ?_
          refine qe_then ?_
          refine wc_keep [(4, _)] rfl ?_
          refine wc_ret ?_
          refine qe_body _ (.inl rfl) (res1 rfl (RV.tmp rfl)) ?_
          exact ret_end fun w hp hn ho => by (try simp only [cmpP, ne_eq, Decidable.not_not] at *); (try simp only [decide_eq_true_eq, decide_eq_false_iff_not, ordF_lt, u8_eq, names_sub] at *); clear hp hn ho; (try simp only [sameB] at *); first | exact bt (by simp only [valB, sameB]; grind) | exact bf (by simp only [valB, sameB]; grind)
      · intro h19
        refine ws_l rfl rfl rfl rfl (rd_pick_t rfl rfl) ?_
        refine ws_l rfl rfl rfl rfl (rd_move rfl) ?_
        refine ws_xskip rfl rfl rfl rfl ?_
        refine ws_xskip rfl rfl rfl rfl ?_
        refine ws_xskip rfl rfl rfl rfl ?_
        refine ws_xskip rfl rfl rfl rfl ?_
        refine ws_xskip rfl rfl rfl rfl ?_
        refine ws_l rfl rfl rfl rfl (rd_pick_f rfl rfl) ?_
        refine ws_l rfl rfl rfl rfl (rd_assign rfl) ?_
        refine ws_nil ?_
        refine qe_then ?_
        refine wc_keep [(4, _)] rfl ?_
        refine wc_ret ?_
        refine qe_body _ (.inl rfl) (res1 rfl (RV.tmp rfl)) ?_
        exact ret_end fun w hp hn ho => by (try simp only [cmpP, ne_eq, Decidable.not_not] at *); (try simp only [decide_eq_true_eq, decide_eq_false_iff_not, ordF_lt, u8_eq, names_sub] at *); clear hp hn ho; (try simp only [sameB] at *); first | exact bt (by simp only [valB, sameB]; grind) | exact bf (by simp only [valB, sameB]; grind)
    · intro h14
      refine ws_l rfl rfl rfl rfl (rd_pick_t rfl rfl) ?_
      refine ws_l rfl rfl rfl rfl (rd_move rfl) ?_
      refine ws_xskip rfl rfl rfl rfl ?_
      refine ws_xskip rfl rfl rfl rfl ?_
      refine ws_xskip rfl rfl rfl rfl ?_
      refine ws_l rfl rfl rfl rfl (rd_pick_f rfl rfl) ?_
      refine ws_l rfl rfl rfl rfl (rd_move rfl) ?_
      refine ws_xskip rfl rfl rfl rfl ?_
      refine ws_xskip rfl rfl rfl rfl ?_
      refine ws_xskip rfl rfl rfl rfl ?_
      refine ws_xskip rfl rfl rfl rfl ?_
      refine ws_xskip rfl rfl rfl rfl ?_
      refine ws_l rfl rfl rfl rfl (rd_pick_f rfl rfl) ?_
      refine ws_l rfl rfl rfl rfl (rd_assign rfl) ?_
      refine ws_nil ?_
      refine qe_then ?_
      refine wc_keep [(4, _)] rfl ?_
      refine wc_ret ?_
      refine qe_body _ (.inl rfl) (res1 rfl (RV.tmp rfl)) ?_
      exact ret_end fun w hp hn ho => by (try simp only [cmpP, ne_eq, Decidable.not_not] at *); (try simp only [decide_eq_true_eq, decide_eq_false_iff_not, ordF_lt, u8_eq, names_sub] at *); clear hp hn ho; (try simp only [sameB] at *); first | exact bt (by simp only [valB, sameB]; grind) | exact bf (by simp only [valB, sameB]; grind)
  · intro h8
    refine ws_l rfl rfl rfl rfl (rd_move rfl) ?_
    refine ws_xskip rfl rfl rfl rfl ?_
    refine ws_xskip rfl rfl rfl rfl ?_
    refine ws_xskip rfl rfl rfl rfl ?_
    refine ws_xskip rfl rfl rfl rfl ?_
    refine ws_xskip rfl rfl rfl rfl ?_
    refine ws_l rfl rfl rfl rfl (rd_pick_f rfl rfl) ?_
    refine ws_l rfl rfl rfl rfl (rd_move rfl) ?_
    refine ws_xskip rfl rfl rfl rfl ?_
    refine ws_xskip rfl rfl rfl rfl ?_
    refine ws_xskip rfl rfl rfl rfl ?_
    refine ws_l rfl rfl rfl rfl (rd_pick_f rfl rfl) ?_
    refine ws_l rfl rfl rfl rfl (rd_move rfl) ?_
    refine ws_xskip rfl rfl rfl rfl ?_
    refine ws_xskip rfl rfl rfl rfl ?_
    refine ws_xskip rfl rfl rfl rfl ?_
    refine ws_xskip rfl rfl rfl rfl ?_
    refine ws_xskip rfl rfl rfl rfl ?_
    refine ws_l rfl rfl rfl rfl (rd_pick_f rfl rfl) ?_
    refine ws_l rfl rfl rfl rfl (rd_assign rfl) ?_
    refine ws_nil ?_
    refine qe_then ?_
    refine wc_keep [(4, _)] rfl ?_
    refine wc_ret ?_
    refine qe_body _ (.inl rfl) (res1 rfl (RV.tmp rfl)) ?_
    exact ret_end fun w hp hn ho => by (try simp only [cmpP, ne_eq, Decidable.not_not] at *); (try simp only [decide_eq_true_eq, decide_eq_false_iff_not, ordF_lt, u8_eq, names_sub] at *); clear hp hn ho; (try simp only [sameB] at *); first | exact bt (by simp only [valB, sameB]; grind) | exact bf (by simp only [valB, sameB]; grind)
set_option maxRecDepth 100000 in
set_option maxHeartbeats 1000000 in
theorem valid_ref (x y : RR) (w : World) : Ret Try.prog 60 [rrK x, rrK y] w [] (fun v _ => v = .bool (decide (valB x y))) := by
  refine enter (n := 47) (args := [rrK x, rrK y]) [] [] Try.func60 rfl rfl rfl (HpOK.nil w) (by simp) ?_
  refine wc_seq ?_
  refine wc_plain [(0, .x true), (1, .x true), (2, .x true)] (by kernel_rfl) ?_
  refine ws_box rfl rfl rfl rfl ?_
  intro b2 hb2
  refine ws_box rfl rfl rfl rfl ?_
  intro b3 hb3
  refine ws_l rfl rfl rfl rfl (rd_assign rfl) ?_
  refine ws_nil ?_
  refine qe_then ?_
  refine wc_seq ?_
  refine wc_plain [(0, .x true), (1, .x true), (2, .x true), (3, .x true), (4, .x true), (5, .x true), (6, .x true), (7, .x true), (8, .x true), (9, .x true), (10, .x true), (11, .x true), (12, .x true), (13, .x true), (14, .x true), (15, .x true), (16, .x true), (17, .x true), (18, .x true), (19, .x true), (20, .x true), (21, .x true), (22, .x true), (23, .x true), (24, .x true), (25, .x true), (26, .x true), (27, .x true), (28, .x true), (29, .x true), (30, .x true), (31, .x true), (32, .x true), (33, .x true), (34, .x true), (35, .x true), (36, .x true), (37, .x true), (38, .x true), (39, .x true), (40, .x true), (41, .x true), (42, .x true)] (by kernel_rfl) ?_
  refine ws_l rfl rfl rfl rfl (rd_fieldAddr rfl) ?_
  refine ws_l rfl rfl rfl rfl (rd_load rfl) ?_
  refine ws_l rfl rfl rfl rfl (rd_build rfl) ?_
  refine ws_lp _ rfl rfl rfl rfl (rd_neid rfl rfl Try.underlying37 (by kernel_rfl)) ?_ ?_
  · intro h8
    refine ws_l rfl rfl rfl rfl (rd_move rfl) ?_
    refine ws_l rfl rfl rfl rfl (rd_fieldAddr rfl) ?_
    refine ws_l rfl rfl rfl rfl (rd_load rfl) ?_
    refine ws_l rfl rfl rfl rfl (rd_fieldAddr rfl) ?_
    refine ws_l rfl rfl rfl rfl (rd_load rfl) ?_
    refine ws_lp _ rfl rfl rfl rfl (rd_eqid rfl rfl Try.underlying37 (by kernel_rfl)) ?_ ?_
    · intro h14
      refine ws_l rfl rfl rfl rfl (rd_pick_t rfl rfl) ?_
      refine ws_l rfl rfl rfl rfl (rd_move rfl) ?_
      refine ws_l rfl rfl rfl rfl (rd_fieldAddr rfl) ?_
      refine ws_l rfl rfl rfl rfl (rd_load rfl) ?_
      refine ws_l rfl rfl rfl rfl (rd_fieldAddr rfl) ?_
      refine ws_l rfl rfl rfl rfl (rd_load rfl) ?_
      refine ws_lp _ rfl rfl rfl rfl (rd_neid rfl rfl Try.underlying37 (by kernel_rfl)) ?_ ?_
      · intro h21
        refine ws_l rfl rfl rfl rfl (rd_pick_t rfl rfl) ?_
        refine ws_l rfl rfl rfl rfl (rd_move rfl) ?_
        refine ws_l rfl rfl rfl rfl (rd_fieldAddr rfl) ?_
        refine ws_l rfl rfl rfl rfl (rd_load rfl) ?_
        refine ws_l rfl rfl rfl rfl (rd_fieldAddr rfl) ?_
        refine ws_l rfl rfl rfl rfl (rd_load rfl) ?_
        refine ws_lp _ rfl rfl rfl rfl (rd_eqid rfl rfl Try.underlying39 (by kernel_rfl)) ?_ ?_
        · intro h28
          refine ws_l rfl rfl rfl rfl (rd_pick_t rfl rfl) ?_
          refine ws_l rfl rfl rfl rfl (rd_move rfl) ?_
          refine ws_l rfl rfl rfl rfl (rd_fieldAddr rfl) ?_
          refine ws_l rfl rfl rfl rfl (rd_load rfl) ?_
          refine ws_l rfl rfl rfl rfl (rd_fieldAddr rfl) ?_
          refine ws_l rfl rfl rfl rfl (rd_load rfl) ?_
          refine ws_lcmp rfl rfl rfl (rfl) (rfl) (rfl) ?_ ?_
          · intro h35
            refine ws_l rfl rfl rfl rfl (rd_pick_t rfl rfl) ?_
            refine ws_l rfl rfl rfl rfl (rd_move rfl) ?_
            refine ws_l rfl rfl rfl rfl (rd_fieldAddr rfl) ?_
            refine ws_l rfl rfl rfl rfl (rd_load rfl) ?_
            refine ws_l rfl rfl rfl rfl (rd_fieldAddr rfl) ?_
            refine ws_l rfl rfl rfl rfl (rd_load rfl) ?_
            refine ws_l rfl rfl rfl rfl (rd_bits _ rfl rfl (bits_and8 _ _)) ?_
            refine ws_l rfl rfl rfl rfl (rd_fieldAddr rfl) ?_
            refine ws_l rfl rfl rfl rfl (rd_load rfl) ?_
            refine ws_lcmp rfl rfl rfl (rfl) (rfl) (rfl) ?_ ?_
            · intro h45
              refine ws_l rfl rfl rfl rfl (rd_pick_t rfl rfl) ?_
              refine ws_l rfl rfl rfl rfl (rd_assign rfl) ?_
              refine ws_nil ?_
              refine qe_then ?_
              refine wc_keep [(4, _)] rfl ?_
              refine wc_ret ?_
              refine qe_body _ (.inl rfl) (res1 rfl (RV.tmp rfl)) ?_
              exact ret_end fun w hp hn ho => by (try simp only [cmpP, ne_eq, Decidable.not_not] at *); (try simp only [decide_eq_true_eq, decide_eq_false_iff_not, ordF_lt, u8_eq, names_sub] at *); clear hp hn ho; first | exact bt (by simp only [valB]; grind) | exact bf (by simp only [valB]; grind)
            · intro h45
              refine ws_l rfl rfl rfl rfl (rd_pick_t rfl rfl) ?_
              refine ws_l rfl rfl rfl rfl (rd_assign rfl) ?_
              refine ws_nil ?_
              refine qe_then ?_
              refine wc_keep [(4, _)] rfl ?_
              refine wc_ret ?_
              refine qe_body _ (.inl rfl) (res1 rfl (RV.tmp rfl)) ?_
              exact ret_end fun w hp hn ho => by (try simp only [cmpP, ne_eq, Decidable.not_not] at *); (try simp only [decide_eq_true_eq, decide_eq_false_iff_not, ordF_lt, u8_eq, names_sub] at *); clear hp hn ho; first | exact bt (by simp only [valB]; grind) | exact bf (by simp only [valB]; grind)
          · intro h35
            refine ws_l rfl rfl rfl rfl (rd_pick_t rfl rfl) ?_
            refine ws_l rfl rfl rfl rfl (rd_move rfl) ?_
            refine ws_xskip rfl rfl rfl rfl ?_
            refine ws_xskip rfl rfl rfl rfl ?_
            refine ws_xskip rfl rfl rfl rfl ?_
            refine ws_xskip rfl rfl rfl rfl ?_
            refine ws_xskip rfl rfl rfl rfl ?_
            refine ws_xskip rfl rfl rfl rfl ?_
            refine ws_xskip rfl rfl rfl rfl ?_
            refine ws_xskip rfl rfl rfl rfl ?_
            refine ws_l rfl rfl rfl rfl (rd_pick_f rfl rfl) ?_
            refine ws_l rfl rfl rfl rfl (rd_assign rfl) ?_
            refine ws_nil ?_
            refine qe_then ?_
            refine wc_keep [(4, _)] rfl ?_
            refine wc_ret ?_
            refine qe_body _ (.inl rfl) (res1 rfl (RV.tmp rfl)) ?_
            exact ret_end fun w hp hn ho => by (try simp only [cmpP, ne_eq, Decidable.not_not] at *); (try simp only [decide_eq_true_eq, decide_eq_false_iff_not, ordF_lt, u8_eq, names_sub] at *); clear hp hn ho; first | exact bt (by simp only [valB]; grind) | exact bf (by simp only [valB]; grind)
        · intro h28
          refine ws_l rfl rfl rfl rfl (rd_pick_t rfl rfl) ?_
          refine ws_l rfl rfl rfl rfl (rd_move rfl) ?_
          refine ws_xskip rfl rfl rfl rfl ?_
          refine ws_xskip rfl rfl rfl rfl ?_
          refine ws_xskip rfl rfl rfl rfl ?_
          refine ws_xskip rfl rfl rfl rfl ?_
          refine ws_xskip rfl rfl rfl rfl ?_
          refine ws_l rfl rfl rfl rfl (rd_pick_f rfl rfl) ?_
          refine ws_l rfl rfl rfl rfl (rd_move rfl) ?_
          refine ws_xskip rfl rfl rfl rfl ?_
          refine ws_xskip rfl rfl rfl rfl ?_
          refine ws_xskip rfl rfl rfl rfl ?_
          refine ws_xskip rfl rfl rfl rfl ?_
          refine ws_xskip rfl rfl rfl rfl ?_
          refine ws_xskip rfl rfl rfl rfl ?_
          refine ws_xskip rfl rfl rfl rfl ?_
          refine ws_xskip rfl rfl rfl rfl ?_
          refine ws_l rfl rfl rfl rfl (rd_pick_f rfl rfl) ?_
          refine ws_l rfl rfl rfl rfl (rd_assign rfl) ?_
          refine ws_nil ?_
          refine qe_then ?_
          refine wc_keep [(4, _)] rfl ?_
          refine wc_ret ?_
          refine qe_body _ (.inl rfl) (res1 rfl (RV.tmp rfl)) ?_
          exact ret_end fun w hp hn ho => by (try simp only [cmpP, ne_eq, Decidable.not_not] at *); (try simp only [decide_eq_true_eq, decide_eq_false_iff_not, ordF_lt, u8_eq, names_sub] at *); clear hp hn ho; first | exact bt (by simp only [valB]; grind) | exact bf (by simp only [valB]; grind)
      · intro h21
        refine ws_l rfl rfl rfl rfl (rd_pick_t rfl rfl) ?_
        refine ws_l rfl rfl rfl rfl (rd_move rfl) ?_
        refine ws_xskip rfl rfl rfl rfl ?_
        refine ws_xskip rfl rfl rfl rfl ?_
        refine ws_xskip rfl rfl rfl rfl ?_
        refine ws_xskip rfl rfl rfl rfl ?_
        refine ws_xskip rfl rfl rfl rfl ?_
        refine ws_l rfl rfl rfl rfl (rd_pick_f rfl rfl) ?_
        refine ws_l rfl rfl rfl rfl (rd_move rfl) ?_
        refine ws_xskip rfl rfl rfl rfl ?_
        refine ws_xskip rfl rfl rfl rfl ?_
        refine ws_xskip rfl rfl rfl rfl ?_
        refine ws_xskip rfl rfl rfl rfl ?_
        refine ws_xskip rfl rfl rfl rfl ?_
        refine ws_l rfl rfl rfl rfl (rd_pick_f rfl rfl) ?_
        refine ws_l rfl rfl rfl rfl (rd_move rfl) ?_
        refine ws_xskip rfl rfl rfl rfl ?_
        refine ws_xskip rfl rfl rfl rfl ?_
        refine ws_xskip rfl rfl rfl rfl ?_
        refine ws_xskip rfl rfl rfl rfl ?_
        refine ws_xskip rfl rfl rfl rfl ?_
        refine ws_xskip rfl rfl rfl rfl ?_
        refine ws_xskip rfl rfl rfl rfl ?_
        refine ws_xskip rfl rfl rfl rfl ?_
        refine ws_l rfl rfl rfl rfl (rd_pick_f rfl rfl) ?_
        refine ws_l rfl rfl rfl rfl (rd_assign rfl) ?_
        refine ws_nil ?_
        refine qe_then ?_
        refine wc_keep [(4, _)] rfl ?_
        refine wc_ret ?_
        refine qe_body _ (.inl rfl) (res1 rfl (RV.tmp rfl)) ?_
        exact ret_end fun w hp hn ho => by (try simp only [cmpP, ne_eq, Decidable.not_not] at *); (try simp only [decide_eq_true_eq, decide_eq_false_iff_not, ordF_lt, u8_eq, names_sub] at *); clear hp hn ho; first | exact bt (by simp only [valB]; grind) | exact bf (by simp only [valB]; grind)
    · intro h14
      refine ws_l rfl rfl rfl rfl (rd_pick_t rfl rfl) ?_
      refine ws_l rfl rfl rfl rfl (rd_move rfl) ?_
      refine ws_xskip rfl rfl rfl rfl ?_
      refine ws_xskip rfl rfl rfl rfl ?_
      refine ws_xskip rfl rfl rfl rfl ?_
      refine ws_xskip rfl rfl rfl rfl ?_
      refine ws_xskip rfl rfl rfl rfl ?_
      refine ws_l rfl rfl rfl rfl (rd_pick_f rfl rfl) ?_
      refine ws_l rfl rfl rfl rfl (rd_move rfl) ?_
      refine ws_xskip rfl rfl rfl rfl ?_
      refine ws_xskip rfl rfl rfl rfl ?_
      refine ws_xskip rfl rfl rfl rfl ?_
      refine ws_xskip rfl rfl rfl rfl ?_
      refine ws_xskip rfl rfl rfl rfl ?_
      refine ws_l rfl rfl rfl rfl (rd_pick_f rfl rfl) ?_
      refine ws_l rfl rfl rfl rfl (rd_move rfl) ?_
      refine ws_xskip rfl rfl rfl rfl ?_
      refine ws_xskip rfl rfl rfl rfl ?_
      refine ws_xskip rfl rfl rfl rfl ?_
      refine ws_xskip rfl rfl rfl rfl ?_
      refine ws_xskip rfl rfl rfl rfl ?_
      refine ws_l rfl rfl rfl rfl (rd_pick_f rfl rfl) ?_
      refine ws_l rfl rfl rfl rfl (rd_move rfl) ?_
      refine ws_xskip rfl rfl rfl rfl ?_
      refine ws_xskip rfl rfl rfl rfl ?_
      refine ws_xskip rfl rfl rfl rfl ?_
      refine ws_xskip rfl rfl rfl rfl ?_
      refine ws_xskip rfl rfl rfl rfl ?_
      refine ws_xskip rfl rfl rfl rfl ?_
      refine ws_xskip rfl rfl rfl rfl ?_
      refine ws_xskip rfl rfl rfl rfl ?_
      refine ws_l rfl rfl rfl rfl (rd_pick_f rfl rfl) ?_
      refine ws_l rfl rfl rfl rfl (rd_assign rfl) ?_
      refine ws_nil ?_
      refine qe_then ?_
      refine wc_keep [(4, _)] rfl ?_
      refine wc_ret ?_
      refine qe_body _ (.inl rfl) (res1 rfl (RV.tmp rfl)) ?_
      exact ret_end fun w hp hn ho => by (try simp only [cmpP, ne_eq, Decidable.not_not] at *); (try simp only [decide_eq_true_eq, decide_eq_false_iff_not, ordF_lt, u8_eq, names_sub] at *); clear hp hn ho; first | exact bt (by simp only [valB]; grind) | exact bf (by simp only [valB]; grind)
  · intro h8
    refine ws_l rfl rfl rfl rfl (rd_move rfl) ?_
    refine ws_xskip rfl rfl rfl rfl ?_
    refine ws_xskip rfl rfl rfl rfl ?_
    refine ws_xskip rfl rfl rfl rfl ?_
    refine ws_xskip rfl rfl rfl rfl ?_
    refine ws_xskip rfl rfl rfl rfl ?_
    refine ws_l rfl rfl rfl rfl (rd_pick_f rfl rfl) ?_
    refine ws_l rfl rfl rfl rfl (rd_move rfl) ?_
    refine ws_xskip rfl rfl rfl rfl ?_
    refine ws_xskip rfl rfl rfl rfl ?_
    refine ws_xskip rfl rfl rfl rfl ?_
    refine ws_xskip rfl rfl rfl rfl ?_
    refine ws_xskip rfl rfl rfl rfl ?_
    refine ws_l rfl rfl rfl rfl (rd_pick_f rfl rfl) ?_
    refine ws_l rfl rfl rfl rfl (rd_move rfl) ?_
    refine ws_xskip rfl rfl rfl rfl ?_
    refine ws_xskip rfl rfl rfl rfl ?_
    refine ws_xskip rfl rfl rfl rfl ?_
    refine ws_xskip rfl rfl rfl rfl ?_
    refine ws_xskip rfl rfl rfl rfl ?_
    refine ws_l rfl rfl rfl rfl (rd_pick_f rfl rfl) ?_
    refine ws_l rfl rfl rfl rfl (rd_move rfl) ?_
    refine ws_xskip rfl rfl rfl rfl ?_
    refine ws_xskip rfl rfl rfl rfl ?_
    refine ws_xskip rfl rfl rfl rfl ?_
    refine ws_xskip rfl rfl rfl rfl ?_
    refine ws_xskip rfl rfl rfl rfl ?_
    refine ws_l rfl rfl rfl rfl (rd_pick_f rfl rfl) ?_
    refine ws_l rfl rfl rfl rfl (rd_move rfl) ?_
    refine ws_xskip rfl rfl rfl rfl ?_
    refine ws_xskip rfl rfl rfl rfl ?_
    refine ws_xskip rfl rfl rfl rfl ?_
    refine ws_xskip rfl rfl rfl rfl ?_
    refine ws_xskip rfl rfl rfl rfl ?_
    refine ws_xskip rfl rfl rfl rfl ?_
    refine ws_xskip rfl rfl rfl rfl ?_
    refine ws_xskip rfl rfl rfl rfl ?_
    refine ws_l rfl rfl rfl rfl (rd_pick_f rfl rfl) ?_
    refine ws_l rfl rfl rfl rfl (rd_assign rfl) ?_
    refine ws_nil ?_
    refine qe_then ?_
    refine wc_keep [(4, _)] rfl ?_
    refine wc_ret ?_
    refine qe_body _ (.inl rfl) (res1 rfl (RV.tmp rfl)) ?_
    exact ret_end fun w hp hn ho => by (try simp only [cmpP, ne_eq, Decidable.not_not] at *); (try simp only [decide_eq_true_eq, decide_eq_false_iff_not, ordF_lt, u8_eq, names_sub] at *); clear hp hn ho; first | exact bt (by simp only [valB]; grind) | exact bf (by simp only [valB]; grind)
set_option maxRecDepth 100000 in
set_option maxHeartbeats 1000000 in
theorem outdoes_ref (x y : RR) (w : World) : Ret Try.prog 61 [rrK x, rrK y] w [] (fun v _ => v = .bool (decide (outB x y))) := by
  refine enter (n := 68) (args := [rrK x, rrK y]) [] [] Try.func61 rfl rfl rfl (HpOK.nil w) (by simp) ?_
  refine wc_seq ?_
  refine wc_plain [(0, .x true), (1, .x true), (2, .x true)] (by kernel_rfl) ?_
  refine ws_box rfl rfl rfl rfl ?_
  intro b2 hb2
  refine ws_box rfl rfl rfl rfl ?_
  intro b3 hb3
  refine ws_l rfl rfl rfl rfl (rd_assign rfl) ?_
  refine ws_nil ?_
  refine qe_then ?_
  refine wc_seq ?_
  refine wc_plain [(0, .x true), (1, .x true), (2, .x true), (3, .x true), (4, .x true), (5, .x true), (6, .x true), (7, .x true), (8, .x true), (9, .x true), (10, .x true), (11, .x true), (12, .x true), (13, .x true), (14, .x true), (15, .x true), (16, .x true), (17, .x true), (18, .x true), (19, .x true), (20, .x true), (21, .x true), (22, .x true), (23, .x true), (24, .x true), (25, .x true), (26, .x true), (27, .x true), (28, .x true), (29, .x true), (30, .x true), (31, .x true), (32, .x true), (33, .x true), (34, .x true), (35, .x true), (36, .x true), (37, .x true), (38, .x true), (39, .x true), (40, .x true), (41, .x true), (42, .x true), (43, .x true), (44, .x true), (45, .x true), (46, .x true), (47, .x true), (48, .x true), (49, .x true), (50, .x true), (51, .x true), (52, .x true), (53, .x true), (54, .x true), (55, .x true), (56, .x true), (57, .x true), (58, .x true), (59, .x true), (60, .x true), (61, .x true), (62, .x true), (63, .x true)] (by kernel_rfl) ?_
  refine ws_l rfl rfl rfl rfl (rd_fieldAddr rfl) ?_
  refine ws_l rfl rfl rfl rfl (rd_load rfl) ?_
  refine ws_l rfl rfl rfl rfl (rd_fieldAddr rfl) ?_
  refine ws_l rfl rfl rfl rfl (rd_load rfl) ?_
  refine ws_lp _ rfl rfl rfl rfl (rd_neid rfl rfl Try.underlying37 (by kernel_rfl)) ?_ ?_
  · intro h9
    refine ws_l rfl rfl rfl rfl (rd_move rfl) ?_
    refine ws_l rfl rfl rfl rfl (rd_fieldAddr rfl) ?_
    refine ws_l rfl rfl rfl rfl (rd_load rfl) ?_
    refine ws_l rfl rfl rfl rfl (rd_build rfl) ?_
    refine ws_lp _ rfl rfl rfl rfl (rd_neid rfl rfl Try.underlying37 (by kernel_rfl)) ?_ ?_
    · intro h14
      refine ws_l rfl rfl rfl rfl (rd_pick_t rfl rfl) ?_
      refine ws_l rfl rfl rfl rfl (rd_move rfl) ?_
      refine ws_l rfl rfl rfl rfl (rd_fieldAddr rfl) ?_
      refine ws_l rfl rfl rfl rfl (rd_load rfl) ?_
      refine ws_l rfl rfl rfl rfl (rd_fieldAddr rfl) ?_
      refine ws_l rfl rfl rfl rfl (rd_load rfl) ?_
      refine ws_lp _ rfl rfl rfl rfl (rd_neid rfl rfl Try.underlying37 (by kernel_rfl)) ?_ ?_
      · intro h21
        refine ws_l rfl rfl rfl rfl (rd_pick_t rfl rfl) ?_
        refine ws_l rfl rfl rfl rfl (rd_move rfl) ?_
        refine ws_l rfl rfl rfl rfl (rd_fieldAddr rfl) ?_
        refine ws_l rfl rfl rfl rfl (rd_load rfl) ?_
        refine ws_l rfl rfl rfl rfl (rd_fieldAddr rfl) ?_
        refine ws_l rfl rfl rfl rfl (rd_load rfl) ?_
        refine ws_lp _ rfl rfl rfl rfl (rd_eqid rfl rfl Try.underlying37 (by kernel_rfl)) ?_ ?_
        · intro h28
          refine ws_l rfl rfl rfl rfl (rd_pick_t rfl rfl) ?_
          refine ws_l rfl rfl rfl rfl (rd_move rfl) ?_
          refine ws_l rfl rfl rfl rfl (rd_fieldAddr rfl) ?_
          refine ws_l rfl rfl rfl rfl (rd_load rfl) ?_
          refine ws_l rfl rfl rfl rfl (rd_fieldAddr rfl) ?_
          refine ws_l rfl rfl rfl rfl (rd_load rfl) ?_
          refine ws_lp _ rfl rfl rfl rfl (rd_eqid rfl rfl Try.underlying39 (by kernel_rfl)) ?_ ?_
          · intro h35
            refine ws_l rfl rfl rfl rfl (rd_pick_t rfl rfl) ?_
            refine ws_l rfl rfl rfl rfl (rd_move rfl) ?_
            refine ws_l rfl rfl rfl rfl (rd_fieldAddr rfl) ?_
            refine ws_l rfl rfl rfl rfl (rd_load rfl) ?_
            refine ws_l rfl rfl rfl rfl (rd_fieldAddr rfl) ?_
            refine ws_l rfl rfl rfl rfl (rd_load rfl) ?_
            refine ws_l rfl rfl rfl rfl (rd_bits _ rfl rfl (bits_and8 _ _)) ?_
            refine ws_l rfl rfl rfl rfl (rd_fieldAddr rfl) ?_
            refine ws_l rfl rfl rfl rfl (rd_load rfl) ?_
            refine ws_lcmp rfl rfl rfl (rfl) (rfl) (rfl) ?_ ?_
            · intro h45
              refine ws_l rfl rfl rfl rfl (rd_pick_t rfl rfl) ?_
              refine ws_l rfl rfl rfl rfl (rd_move rfl) ?_
              refine ws_l rfl rfl rfl rfl (rd_fieldAddr rfl) ?_
              refine ws_l rfl rfl rfl rfl (rd_load rfl) ?_
              refine ws_l rfl rfl rfl rfl (rd_fieldAddr rfl) ?_
              refine ws_l rfl rfl rfl rfl (rd_load rfl) ?_
              refine ws_lcmp rfl rfl rfl (rfl) (rfl) (rfl) ?_ ?_
              · intro h52
                refine ws_l rfl rfl rfl rfl (rd_move rfl) ?_
                refine ws_xskip rfl rfl rfl rfl ?_
                refine ws_xskip rfl rfl rfl rfl ?_
                refine ws_xskip rfl rfl rfl rfl ?_
                refine ws_xskip rfl rfl rfl rfl ?_
                refine ws_xskip rfl rfl rfl rfl ?_
                refine ws_xskip rfl rfl rfl rfl ?_
                refine ws_xskip rfl rfl rfl rfl ?_
                refine ws_xskip rfl rfl rfl rfl ?_
                refine ws_xskip rfl rfl rfl rfl ?_
                refine ws_xskip rfl rfl rfl rfl ?_
                refine ws_xskip rfl rfl rfl rfl ?_
                refine ws_xskip rfl rfl rfl rfl ?_
                refine ws_l rfl rfl rfl rfl (rd_pick_t rfl rfl) ?_
                refine ws_l rfl rfl rfl rfl (rd_pick_t rfl rfl) ?_
                refine ws_l rfl rfl rfl rfl (rd_assign rfl) ?_
                refine ws_nil ?_
                refine qe_then ?_
                refine wc_keep [(4, _)] rfl ?_
                refine wc_ret ?_
                refine qe_body _ (.inl rfl) (res1 rfl (RV.tmp rfl)) ?_
                exact ret_end fun w hp hn ho => by (try simp only [cmpP, ne_eq, Decidable.not_not] at *); (try simp only [decide_eq_true_eq, decide_eq_false_iff_not, ordF_lt, u8_eq, names_sub] at *); clear hp hn ho; first | exact bt (by simp only [outB, ordLt]; grind) | exact bf (by simp only [outB, ordLt]; grind)
              · intro h52
                refine ws_l rfl rfl rfl rfl (rd_move rfl) ?_
                refine ws_l rfl rfl rfl rfl (rd_fieldAddr rfl) ?_
                refine ws_l rfl rfl rfl rfl (rd_load rfl) ?_
                refine ws_l rfl rfl rfl rfl (rd_fieldAddr rfl) ?_
                refine ws_l rfl rfl rfl rfl (rd_load rfl) ?_
                refine ws_lcmp rfl rfl rfl (rfl) (rfl) (rfl) ?_ ?_
                · intro h58
                  refine ws_l rfl rfl rfl rfl (rd_move rfl) ?_
                  refine ws_l rfl rfl rfl rfl (rd_fieldAddr rfl) ?_
                  refine ws_l rfl rfl rfl rfl (rd_load rfl) ?_
                  refine ws_l rfl rfl rfl rfl (rd_fieldAddr rfl) ?_
                  refine ws_l rfl rfl rfl rfl (rd_load rfl) ?_
                  refine ws_callb (decide _) rfl rfl rfl rfl rfl (En.go) (fun w hp hn ho => before_ref _ _ w) ?_ ?_
                  · intro h64
                    refine ws_l rfl rfl rfl rfl (rd_pick_t rfl rfl) ?_
                    refine ws_l rfl rfl rfl rfl (rd_pick_f rfl rfl) ?_
                    refine ws_l rfl rfl rfl rfl (rd_pick_t rfl rfl) ?_
                    refine ws_l rfl rfl rfl rfl (rd_assign rfl) ?_
                    refine ws_nil ?_
                    refine qe_then ?_
                    refine wc_keep [(4, _)] rfl ?_
                    refine wc_ret ?_
                    refine qe_body _ (.inl rfl) (res1 rfl (RV.tmp rfl)) ?_
                    exact ret_end fun w hp hn ho => by (try simp only [cmpP, ne_eq, Decidable.not_not] at *); (try simp only [decide_eq_true_eq, decide_eq_false_iff_not, ordF_lt, u8_eq, names_sub] at *); clear hp hn ho; first | exact bt (by simp only [outB, ordLt]; grind) | exact bf (by simp only [outB, ordLt]; grind)
                  · intro h64
                    refine ws_l rfl rfl rfl rfl (rd_pick_t rfl rfl) ?_
                    refine ws_l rfl rfl rfl rfl (rd_pick_f rfl rfl) ?_
                    refine ws_l rfl rfl rfl rfl (rd_pick_t rfl rfl) ?_
                    refine ws_l rfl rfl rfl rfl (rd_assign rfl) ?_
                    refine ws_nil ?_
                    refine qe_then ?_
                    refine wc_keep [(4, _)] rfl ?_
                    refine wc_ret ?_
                    refine qe_body _ (.inl rfl) (res1 rfl (RV.tmp rfl)) ?_
                    exact ret_end fun w hp hn ho => by (try simp only [cmpP, ne_eq, Decidable.not_not] at *); (try simp only [decide_eq_true_eq, decide_eq_false_iff_not, ordF_lt, u8_eq, names_sub] at *); clear hp hn ho; first | exact bt (by simp only [outB, ordLt]; grind) | exact bf (by simp only [outB, ordLt]; grind)
                · intro h58
                  refine ws_l rfl rfl rfl rfl (rd_move rfl) ?_
                  refine ws_xskip rfl rfl rfl rfl ?_
                  refine ws_xskip rfl rfl rfl rfl ?_
                  refine ws_xskip rfl rfl rfl rfl ?_
                  refine ws_xskip rfl rfl rfl rfl ?_
                  refine ws_xskip rfl rfl rfl rfl ?_
                  refine ws_l rfl rfl rfl rfl (rd_pick_f rfl rfl) ?_
                  refine ws_l rfl rfl rfl rfl (rd_pick_f rfl rfl) ?_
                  refine ws_l rfl rfl rfl rfl (rd_pick_t rfl rfl) ?_
                  refine ws_l rfl rfl rfl rfl (rd_assign rfl) ?_
                  refine ws_nil ?_
                  refine qe_then ?_
                  refine wc_keep [(4, _)] rfl ?_
                  refine wc_ret ?_
                  refine qe_body _ (.inl rfl) (res1 rfl (RV.tmp rfl)) ?_
                  exact ret_end fun w hp hn ho => by (try simp only [cmpP, ne_eq, Decidable.not_not] at *); (try simp only [decide_eq_true_eq, decide_eq_false_iff_not, ordF_lt, u8_eq, names_sub] at *); clear hp hn ho; first | exact bt (by simp only [outB, ordLt]; grind) | exact bf (by simp only [outB, ordLt]; grind)
            · intro h45
              refine ws_l rfl rfl rfl rfl (rd_pick_t rfl rfl) ?_
              refine ws_l rfl rfl rfl rfl (rd_move rfl) ?_
              refine ws_xskip rfl rfl rfl rfl ?_
              refine ws_xskip rfl rfl rfl rfl ?_
              refine ws_xskip rfl rfl rfl rfl ?_
              refine ws_xskip rfl rfl rfl rfl ?_
              refine ws_xskip rfl rfl rfl rfl ?_
              refine ws_xskip rfl rfl rfl rfl ?_
              refine ws_xskip rfl rfl rfl rfl ?_
              refine ws_xskip rfl rfl rfl rfl ?_
              refine ws_xskip rfl rfl rfl rfl ?_
              refine ws_xskip rfl rfl rfl rfl ?_
              refine ws_xskip rfl rfl rfl rfl ?_
              refine ws_xskip rfl rfl rfl rfl ?_
              refine ws_xskip rfl rfl rfl rfl ?_
              refine ws_xskip rfl rfl rfl rfl ?_
              refine ws_xskip rfl rfl rfl rfl ?_
              refine ws_xskip rfl rfl rfl rfl ?_
              refine ws_xskip rfl rfl rfl rfl ?_
              refine ws_xskip rfl rfl rfl rfl ?_
              refine ws_xskip rfl rfl rfl rfl ?_
              refine ws_l rfl rfl rfl rfl (rd_pick_f rfl rfl) ?_
              refine ws_l rfl rfl rfl rfl (rd_assign rfl) ?_
              refine ws_nil ?_
              refine qe_then ?_
              refine wc_keep [(4, _)] rfl ?_
              refine wc_ret ?_
              refine qe_body _ (.inl rfl) (res1 rfl (RV.tmp rfl)) ?_
              exact ret_end fun w hp hn ho => by (try simp only [cmpP, ne_eq, Decidable.not_not] at *); (try simp only [decide_eq_true_eq, decide_eq_false_iff_not, ordF_lt, u8_eq, names_sub] at *); clear hp hn ho; first | exact bt (by simp only [outB, ordLt]; grind) | exact bf (by simp only [outB, ordLt]; grind)
          · intro h35
            refine ws_l rfl rfl rfl rfl (rd_pick_t rfl rfl) ?_
            refine ws_l rfl rfl rfl rfl (rd_move rfl) ?_
            refine ws_xskip rfl rfl rfl rfl ?_
            refine ws_xskip rfl rfl rfl rfl ?_
            refine ws_xskip rfl rfl rfl rfl ?_
            refine ws_xskip rfl rfl rfl rfl ?_
            refine ws_xskip rfl rfl rfl rfl ?_
            refine ws_xskip rfl rfl rfl rfl ?_
            refine ws_xskip rfl rfl rfl rfl ?_
            refine ws_xskip rfl rfl rfl rfl ?_
            refine ws_l rfl rfl rfl rfl (rd_pick_f rfl rfl) ?_
            refine ws_l rfl rfl rfl rfl (rd_move rfl) ?_
            refine ws_xskip rfl rfl rfl rfl ?_
            refine ws_xskip rfl rfl rfl rfl ?_
            refine ws_xskip rfl rfl rfl rfl ?_
            refine ws_xskip rfl rfl rfl rfl ?_
            refine ws_xskip rfl rfl rfl rfl ?_
            refine ws_xskip rfl rfl rfl rfl ?_
            refine ws_xskip rfl rfl rfl rfl ?_
            refine ws_xskip rfl rfl rfl rfl ?_
            refine ws_xskip rfl rfl rfl rfl ?_
            refine ws_xskip rfl rfl rfl rfl ?_
            refine ws_xskip rfl rfl rfl rfl ?_
            refine ws_xskip rfl rfl rfl rfl ?_
            refine ws_xskip rfl rfl rfl rfl ?_
            refine ws_xskip rfl rfl rfl rfl ?_
            refine ws_xskip rfl rfl rfl rfl ?_
            refine ws_xskip rfl rfl rfl rfl ?_
            refine ws_xskip rfl rfl rfl rfl ?_
            refine ws_xskip rfl rfl rfl rfl ?_
            refine ws_xskip rfl rfl rfl rfl ?_
            refine ws_l rfl rfl rfl rfl (rd_pick_f rfl rfl) ?_
            refine ws_l rfl rfl rfl rfl (rd_assign rfl) ?_
            refine ws_nil ?_
            refine qe_then ?_
            refine wc_keep [(4, _)] rfl ?_
            refine wc_ret ?_
            refine qe_body _ (.inl rfl) (res1 rfl (RV.tmp rfl)) ?_
            exact ret_end fun w hp hn ho => by (try simp only [cmpP, ne_eq, Decidable.not_not] at *); (try simp only [decide_eq_true_eq, decide_eq_false_iff_not, ordF_lt, u8_eq, names_sub] at *); clear hp hn ho; first | exact bt (by simp only [outB, ordLt]; grind) | exact bf (by simp only [outB, ordLt]; grind)
        · intro h28
          refine ws_l rfl rfl rfl rfl (rd_pick_t rfl rfl) ?_
          refine ws_l rfl rfl rfl rfl (rd_move rfl) ?_
          refine ws_xskip rfl rfl rfl rfl ?_
          refine ws_xskip rfl rfl rfl rfl ?_
          refine ws_xskip rfl rfl rfl rfl ?_
          refine ws_xskip rfl rfl rfl rfl ?_
          refine ws_xskip rfl rfl rfl rfl ?_
          refine ws_l rfl rfl rfl rfl (rd_pick_f rfl rfl) ?_
          refine ws_l rfl rfl rfl rfl (rd_move rfl) ?_
          refine ws_xskip rfl rfl rfl rfl ?_
          refine ws_xskip rfl rfl rfl rfl ?_
          refine ws_xskip rfl rfl rfl rfl ?_
          refine ws_xskip rfl rfl rfl rfl ?_
          refine ws_xskip rfl rfl rfl rfl ?_
          refine ws_xskip rfl rfl rfl rfl ?_
          refine ws_xskip rfl rfl rfl rfl ?_
          refine ws_xskip rfl rfl rfl rfl ?_
          refine ws_l rfl rfl rfl rfl (rd_pick_f rfl rfl) ?_
          refine ws_l rfl rfl rfl rfl (rd_move rfl) ?_
          refine ws_xskip rfl rfl rfl rfl ?_
          refine ws_xskip rfl rfl rfl rfl ?_
          refine ws_xskip rfl rfl rfl rfl ?_
          refine ws_xskip rfl rfl rfl rfl ?_
          refine ws_xskip rfl rfl rfl rfl ?_
          refine ws_xskip rfl rfl rfl rfl ?_
          refine ws_xskip rfl rfl rfl rfl ?_
          refine ws_xskip rfl rfl rfl rfl ?_
          refine ws_xskip rfl rfl rfl rfl ?_
          refine ws_xskip rfl rfl rfl rfl ?_
          refine ws_xskip rfl rfl rfl rfl ?_
          refine ws_xskip rfl rfl rfl rfl ?_
          refine ws_xskip rfl rfl rfl rfl ?_
          refine ws_xskip rfl rfl rfl rfl ?_
          refine ws_xskip rfl rfl rfl rfl ?_
          refine ws_xskip rfl rfl rfl rfl ?_
          refine ws_xskip rfl rfl rfl rfl ?_
          refine ws_xskip rfl rfl rfl rfl ?_
          refine ws_xskip rfl rfl rfl rfl ?_
          refine ws_l rfl rfl rfl rfl (rd_pick_f rfl rfl) ?_
          refine ws_l rfl rfl rfl rfl (rd_assign rfl) ?_
          refine ws_nil ?_
          refine qe_then ?_
          refine wc_keep [(4, _)] rfl ?_
          refine wc_ret ?_
          refine qe_body _ (.inl rfl) (res1 rfl (RV.tmp rfl)) ?_
          exact ret_end fun w hp hn ho => by (try simp only [cmpP, ne_eq, Decidable.not_not] at *); (try simp only [decide_eq_true_eq, decide_eq_false_iff_not, ordF_lt, u8_eq, names_sub] at *); clear hp hn ho; first | exact bt (by simp only [outB, ordLt]; grind) | exact bf (by simp only [outB, ordLt]; grind)
      · intro h21
        refine ws_l rfl rfl rfl rfl (rd_pick_t rfl rfl) ?_
        refine ws_l rfl rfl rfl rfl (rd_move rfl) ?_
        refine ws_xskip rfl rfl rfl rfl ?_
        refine ws_xskip rfl rfl rfl rfl ?_
        refine ws_xskip rfl rfl rfl rfl ?_
        refine ws_xskip rfl rfl rfl rfl ?_
        refine ws_xskip rfl rfl rfl rfl ?_
        refine ws_l rfl rfl rfl rfl (rd_pick_f rfl rfl) ?_
        refine ws_l rfl rfl rfl rfl (rd_move rfl) ?_
        refine ws_xskip rfl rfl rfl rfl ?_
        refine ws_xskip rfl rfl rfl rfl ?_
        refine ws_xskip rfl rfl rfl rfl ?_
        refine ws_xskip rfl rfl rfl rfl ?_
        refine ws_xskip rfl rfl rfl rfl ?_
        refine ws_l rfl rfl rfl rfl (rd_pick_f rfl rfl) ?_
        refine ws_l rfl rfl rfl rfl (rd_move rfl) ?_
        refine ws_xskip rfl rfl rfl rfl ?_
        refine ws_xskip rfl rfl rfl rfl ?_
        refine ws_xskip rfl rfl rfl rfl ?_
        refine ws_xskip rfl rfl rfl rfl ?_
        refine ws_xskip rfl rfl rfl rfl ?_
        refine ws_xskip rfl rfl rfl rfl ?_
        refine ws_xskip rfl rfl rfl rfl ?_
        refine ws_xskip rfl rfl rfl rfl ?_
        refine ws_l rfl rfl rfl rfl (rd_pick_f rfl rfl) ?_
        refine ws_l rfl rfl rfl rfl (rd_move rfl) ?_
        refine ws_xskip rfl rfl rfl rfl ?_
        refine ws_xskip rfl rfl rfl rfl ?_
        refine ws_xskip rfl rfl rfl rfl ?_
        refine ws_xskip rfl rfl rfl rfl ?_
        refine ws_xskip rfl rfl rfl rfl ?_
        refine ws_xskip rfl rfl rfl rfl ?_
        refine ws_xskip rfl rfl rfl rfl ?_
        refine ws_xskip rfl rfl rfl rfl ?_
        refine ws_xskip rfl rfl rfl rfl ?_
        refine ws_xskip rfl rfl rfl rfl ?_
        refine ws_xskip rfl rfl rfl rfl ?_
        refine ws_xskip rfl rfl rfl rfl ?_
        refine ws_xskip rfl rfl rfl rfl ?_
        refine ws_xskip rfl rfl rfl rfl ?_
        refine ws_xskip rfl rfl rfl rfl ?_
        refine ws_xskip rfl rfl rfl rfl ?_
        refine ws_xskip rfl rfl rfl rfl ?_
        refine ws_xskip rfl rfl rfl rfl ?_
        refine ws_xskip rfl rfl rfl rfl ?_
        refine ws_l rfl rfl rfl rfl (rd_pick_f rfl rfl) ?_
        refine ws_l rfl rfl rfl rfl (rd_assign rfl) ?_
        refine ws_nil ?_
        refine qe_then ?_
        refine wc_keep [(4, _)] rfl ?_
        refine wc_ret ?_
        refine qe_body _ (.inl rfl) (res1 rfl (RV.tmp rfl)) ?_
        exact ret_end fun w hp hn ho => by (try simp only [cmpP, ne_eq, Decidable.not_not] at *); (try simp only [decide_eq_true_eq, decide_eq_false_iff_not, ordF_lt, u8_eq, names_sub] at *); clear hp hn ho; first | exact bt (by simp only [outB, ordLt]; grind) | exact bf (by simp only [outB, ordLt]; grind)
    · intro h14
      refine ws_l rfl rfl rfl rfl (rd_pick_t rfl rfl) ?_
      refine ws_l rfl rfl rfl rfl (rd_move rfl) ?_
      refine ws_xskip rfl rfl rfl rfl ?_
      refine ws_xskip rfl rfl rfl rfl ?_
      refine ws_xskip rfl rfl rfl rfl ?_
      refine ws_xskip rfl rfl rfl rfl ?_
      refine ws_xskip rfl rfl rfl rfl ?_
      refine ws_l rfl rfl rfl rfl (rd_pick_f rfl rfl) ?_
      refine ws_l rfl rfl rfl rfl (rd_move rfl) ?_
      refine ws_xskip rfl rfl rfl rfl ?_
      refine ws_xskip rfl rfl rfl rfl ?_
      refine ws_xskip rfl rfl rfl rfl ?_
      refine ws_xskip rfl rfl rfl rfl ?_
      refine ws_xskip rfl rfl rfl rfl ?_
      refine ws_l rfl rfl rfl rfl (rd_pick_f rfl rfl) ?_
      refine ws_l rfl rfl rfl rfl (rd_move rfl) ?_
      refine ws_xskip rfl rfl rfl rfl ?_
      refine ws_xskip rfl rfl rfl rfl ?_
      refine ws_xskip rfl rfl rfl rfl ?_
      refine ws_xskip rfl rfl rfl rfl ?_
      refine ws_xskip rfl rfl rfl rfl ?_
      refine ws_l rfl rfl rfl rfl (rd_pick_f rfl rfl) ?_
      refine ws_l rfl rfl rfl rfl (rd_move rfl) ?_
      refine ws_xskip rfl rfl rfl rfl ?_
      refine ws_xskip rfl rfl rfl rfl ?_
      refine ws_xskip rfl rfl rfl rfl ?_
      refine ws_xskip rfl rfl rfl rfl ?_
      refine ws_xskip rfl rfl rfl rfl ?_
      refine ws_xskip rfl rfl rfl rfl ?_
      refine ws_xskip rfl rfl rfl rfl ?_
      refine ws_xskip rfl rfl rfl rfl ?_
      refine ws_l rfl rfl rfl rfl (rd_pick_f rfl rfl) ?_
      refine ws_l rfl rfl rfl rfl (rd_move rfl) ?_
      refine ws_xskip rfl rfl rfl rfl ?_
      refine ws_xskip rfl rfl rfl rfl ?_
      refine ws_xskip rfl rfl rfl rfl ?_
      refine ws_xskip rfl rfl rfl rfl ?_
      refine ws_xskip rfl rfl rfl rfl ?_
      refine ws_xskip rfl rfl rfl rfl ?_
      refine ws_xskip rfl rfl rfl rfl ?_
      refine ws_xskip rfl rfl rfl rfl ?_
      refine ws_xskip rfl rfl rfl rfl ?_
      refine ws_xskip rfl rfl rfl rfl ?_
      refine ws_xskip rfl rfl rfl rfl ?_
      refine ws_xskip rfl rfl rfl rfl ?_
      refine ws_xskip rfl rfl rfl rfl ?_
      refine ws_xskip rfl rfl rfl rfl ?_
      refine ws_xskip rfl rfl rfl rfl ?_
      refine ws_xskip rfl rfl rfl rfl ?_
      refine ws_xskip rfl rfl rfl rfl ?_
      refine ws_xskip rfl rfl rfl rfl ?_
      refine ws_xskip rfl rfl rfl rfl ?_
      refine ws_l rfl rfl rfl rfl (rd_pick_f rfl rfl) ?_
      refine ws_l rfl rfl rfl rfl (rd_assign rfl) ?_
      refine ws_nil ?_
      refine qe_then ?_
      refine wc_keep [(4, _)] rfl ?_
      refine wc_ret ?_
      refine qe_body _ (.inl rfl) (res1 rfl (RV.tmp rfl)) ?_
      exact ret_end fun w hp hn ho => by (try simp only [cmpP, ne_eq, Decidable.not_not] at *); (try simp only [decide_eq_true_eq, decide_eq_false_iff_not, ordF_lt, u8_eq, names_sub] at *); clear hp hn ho; first | exact bt (by simp only [outB, ordLt]; grind) | exact bf (by simp only [outB, ordLt]; grind)
  · intro h9
    refine ws_l rfl rfl rfl rfl (rd_move rfl) ?_
    refine ws_xskip rfl rfl rfl rfl ?_
    refine ws_xskip rfl rfl rfl rfl ?_
    refine ws_xskip rfl rfl rfl rfl ?_
    refine ws_xskip rfl rfl rfl rfl ?_
    refine ws_l rfl rfl rfl rfl (rd_pick_f rfl rfl) ?_
    refine ws_l rfl rfl rfl rfl (rd_move rfl) ?_
    refine ws_xskip rfl rfl rfl rfl ?_
    refine ws_xskip rfl rfl rfl rfl ?_
    refine ws_xskip rfl rfl rfl rfl ?_
    refine ws_xskip rfl rfl rfl rfl ?_
    refine ws_xskip rfl rfl rfl rfl ?_
    refine ws_l rfl rfl rfl rfl (rd_pick_f rfl rfl) ?_
    refine ws_l rfl rfl rfl rfl (rd_move rfl) ?_
    refine ws_xskip rfl rfl rfl rfl ?_
    refine ws_xskip rfl rfl rfl rfl ?_
    refine ws_xskip rfl rfl rfl rfl ?_
    refine ws_xskip rfl rfl rfl rfl ?_
    refine ws_xskip rfl rfl rfl rfl ?_
    refine ws_l rfl rfl rfl rfl (rd_pick_f rfl rfl) ?_
    refine ws_l rfl rfl rfl rfl (rd_move rfl) ?_
    refine ws_xskip rfl rfl rfl rfl ?_
    refine ws_xskip rfl rfl rfl rfl ?_
    refine ws_xskip rfl rfl rfl rfl ?_
    refine ws_xskip rfl rfl rfl rfl ?_
    refine ws_xskip rfl rfl rfl rfl ?_
    refine ws_l rfl rfl rfl rfl (rd_pick_f rfl rfl) ?_
    refine ws_l rfl rfl rfl rfl (rd_move rfl) ?_
    refine ws_xskip rfl rfl rfl rfl ?_
    refine ws_xskip rfl rfl rfl rfl ?_
    refine ws_xskip rfl rfl rfl rfl ?_
    refine ws_xskip rfl rfl rfl rfl ?_
    refine ws_xskip rfl rfl rfl rfl ?_
    refine ws_xskip rfl rfl rfl rfl ?_
    refine ws_xskip rfl rfl rfl rfl ?_
    refine ws_xskip rfl rfl rfl rfl ?_
    refine ws_l rfl rfl rfl rfl (rd_pick_f rfl rfl) ?_
    refine ws_l rfl rfl rfl rfl (rd_move rfl) ?_
    refine ws_xskip rfl rfl rfl rfl ?_
    refine ws_xskip rfl rfl rfl rfl ?_
    refine ws_xskip rfl rfl rfl rfl ?_
    refine ws_xskip rfl rfl rfl rfl ?_
    refine ws_xskip rfl rfl rfl rfl ?_
    refine ws_xskip rfl rfl rfl rfl ?_
    refine ws_xskip rfl rfl rfl rfl ?_
    refine ws_xskip rfl rfl rfl rfl ?_
    refine ws_xskip rfl rfl rfl rfl ?_
    refine ws_xskip rfl rfl rfl rfl ?_
    refine ws_xskip rfl rfl rfl rfl ?_
    refine ws_xskip rfl rfl rfl rfl ?_
    refine ws_xskip rfl rfl rfl rfl ?_
    refine ws_xskip rfl rfl rfl rfl ?_
    refine ws_xskip rfl rfl rfl rfl ?_
    refine ws_xskip rfl rfl rfl rfl ?_
    refine ws_xskip rfl rfl rfl rfl ?_
    refine ws_xskip rfl rfl rfl rfl ?_
    refine ws_xskip rfl rfl rfl rfl ?_
    refine ws_l rfl rfl rfl rfl (rd_pick_f rfl rfl) ?_
    refine ws_l rfl rfl rfl rfl (rd_assign rfl) ?_
    refine ws_nil ?_
    refine qe_then ?_
    refine wc_keep [(4, _)] rfl ?_
    refine wc_ret ?_
    refine qe_body _ (.inl rfl) (res1 rfl (RV.tmp rfl)) ?_
    exact ret_end fun w hp hn ho => by (try simp only [cmpP, ne_eq, Decidable.not_not] at *); (try simp only [decide_eq_true_eq, decide_eq_false_iff_not, ordF_lt, u8_eq, names_sub] at *); clear hp hn ho; first | exact bt (by simp only [outB, ordLt]; grind) | exact bf (by simp only [outB, ordLt]; grind)

end Go.Proofs.Ytaagmgpfpaanlaa
