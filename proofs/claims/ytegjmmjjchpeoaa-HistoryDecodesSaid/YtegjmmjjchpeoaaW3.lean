/- Walks: Find, Before, comparisons. No conditions. -/
import Derived.Test.YtegjmmjjchpeoaaW2
import Derived.Test.YtegjmmjjchpeoaaBx
namespace Go.Proofs.Ytegjmmjjchpeoaa
open Go Go.RowKit Go.Sx
set_option linter.unusedSimpArgs false
set_option linter.unusedVariables false

set_option maxRecDepth 100000 in
set_option maxHeartbeats 1000000 in
theorem find_ref (v : Value) (ν : Heap) (rows : List Ent) (hown : OwnR 0 24 36 v ν rows.length (rows.flatMap entL)) (hlen : rows.length < 1048576) (id : Id) (w : World) (hν : HpOK ν w) (hnd : (ν.map Prod.fst).Nodup) : Ret Try.prog 45 [v, idK id] w [] (fun u _ => u = I (findF id rows 0)) := by
  refine enter (n := 20) (args := [v, idK id]) [] ν Try.func45 rfl rfl rfl hν hnd ?_
  refine wc_seq ?_
  refine wc_plain [(0, .x true), (1, .x true)] (by kernel_rfl) ?_
  refine ws_box rfl rfl rfl rfl ?_
  intro b3 hb3
  refine ws_l rfl rfl rfl rfl (rd_assign rfl) ?_
  refine ws_nil ?_
  refine qe_then ?_
  refine wc_seq ?_
  refine wc_seq ?_
  refine wc_plain [(0, .x true)] (by kernel_rfl) ?_
  refine ws_l rfl rfl rfl rfl (rd_assign rfl) ?_
  refine ws_nil ?_
  refine qe_then ?_
  refine wc_block ?_
  refine wc_loop (fun mz ac w1 => ∃ (j : Nat), mz = rows.length - j ∧ (j ≤ rows.length) ∧ (findF id (rows.drop j) j = findF id rows 0) ∧ St 20 w [] [(0, v), (3, ptr b3), (5, I j)] ((b3, .cells (idC id) 22 (0, 0)) :: ν) ac w1) _ (fun ac w1 hs => ⟨0, rfl, (by omega), (by simp), st_sub hs _ rfl⟩) ?_
  rintro _ ac1 wl1 ⟨j, rfl, hj, hf, hs1⟩
  refine wc_at hs1 ?_
  refine wc_seq ?_
  refine wc_seq ?_
  refine wc_plain [(0, .x true), (1, .x true), (2, .x true), (3, .x true)] (by kernel_rfl) ?_
  refine ws_l rfl rfl rfl rfl (rd_move rfl) ?_
  refine ws_l rfl rfl rfl rfl (rd_move rfl) ?_
  refine ws_l rfl rfl rfl rfl (rd_lenO hown rfl Try.underlying36) ?_
  refine ws_lcmp rfl rfl rfl (rfl) (rfl) (rfl) ?_ ?_
  · intro h9
    refine ws_nil ?_
    refine qe_then ?_
    refine wc_true rfl ?_
    refine wc_skip ?_
    refine qe_then ?_
    refine wc_seq ?_
    refine wc_block ?_
    refine wc_seq ?_
    refine wc_drawn mixedT _ (fun _ h => h) [(0, .r), (1, .r), (2, .r), (3, .r), (4, .r), (5, .r), (6, .x true)] (by kernel_rfl) ?_
    refine ws_r rfl rfl rfl rfl (rd_move rfl) ?_
    refine ws_r rfl rfl rfl rfl (rd_move rfl) ?_
    obtain ⟨gv, capv, curv, rfl, rfl, hgv, hcapv, hcurv⟩ := OwnR.opened hown (by omega)
    obtain ⟨x, hx⟩ := at_ex (l := rows) (j := j) (by omega)
    have atx := at_row hcurv hx
    refine ws_r rfl rfl rfl rfl (rd_ix rfl rfl Try.underlying36 Try.sizeOf24 (by omega)) ?_
    refine ws_r rfl rfl rfl rfl (rd_fieldAddr rfl) ?_
    refine ws_r rfl rfl rfl rfl (rd_load rfl) ?_
    refine ws_r rfl rfl rfl rfl (rd_load rfl) ?_
    refine ws_late rfl ?_
    refine ws_lp _ rfl rfl rfl rfl (rd_eqid rfl rfl Try.underlying22 (by kernel_rfl)) ?_ ?_
    · intro h18
      refine ws_nil ?_
      refine qe_then ?_
      refine wc_true rfl ?_
      refine wc_seq ?_
      refine wc_plain [(0, .x true), (1, .x true)] (by kernel_rfl) ?_
      refine ws_l rfl rfl rfl rfl (rd_move rfl) ?_
      refine ws_l rfl rfl rfl rfl (rd_assign rfl) ?_
      refine ws_nil ?_
      refine qe_then ?_
      refine wc_ret ?_
      refine qe_block_ret ?_
      refine qe_then_ret ?_
      refine qe_then_ret ?_
      refine qe_block_ret ?_
      refine qe_then_ret ?_
      refine qe_body _ (.inl rfl) (res1 rfl (RV.tmp rfl)) ?_
      exact ret_end fun w hp hn ho => by rw [← hf]; simp [findF, drop_at hx, *]
    · intro h18
      refine ws_nil ?_
      refine qe_then ?_
      refine wc_false rfl ?_
      refine wc_skip ?_
      refine qe_block ?_
      refine qe_then ?_
      refine wc_plain [(0, .x true), (1, .x true), (2, .x true)] (by kernel_rfl) ?_
      refine ws_l rfl rfl rfl rfl (rd_move rfl) ?_
      refine ws_l rfl rfl rfl rfl (rd_arith (((j + 1 : Nat) : Int)) rfl rfl rfl (by rw [wrap_i64 _ (by omega) (by omega)]; omega)) ?_
      refine ws_l rfl rfl rfl rfl (rd_assign rfl) ?_
      refine ws_nil ?_
      exact qe_loop fun ac2 w2 hs2 => ⟨_, by omega, j + 1, rfl, (by omega), (by rw [← hf, drop_at hx]; simp [findF, *]), st_sub hs2 _ rfl⟩
  · intro h9
    refine ws_nil ?_
    refine qe_then ?_
    refine wc_false rfl ?_
    refine wc_exit ?_
    refine qe_then_exit ?_
    refine qe_then_exit ?_
    refine qe_block_exit ?_
    refine qe_then ?_
    refine wc_keep [] rfl ?_
    refine wc_seq ?_
    refine wc_plain [(0, .x true)] (by kernel_rfl) ?_
    refine ws_l rfl rfl rfl rfl (rd_assign rfl) ?_
    refine ws_nil ?_
    refine qe_then ?_
    refine wc_ret ?_
    refine qe_body _ (.inl rfl) (res1 rfl (RV.tmp rfl)) ?_
    exact ret_end fun w hp hn ho => by rw [← hf, List.drop_eq_nil_of_le (by omega)]; rfl
set_option maxRecDepth 100000 in
set_option maxHeartbeats 1000000 in
theorem before_ref (a b : Id) (w : World) : Ret Try.prog 60 [idK a, idK b] w [] (fun v _ => v = .bool (decide (idLt a b))) := by
  refine enter (n := 10) (args := [idK a, idK b]) [] [] Try.func60 rfl rfl rfl (HpOK.nil w) (by simp) ?_
  refine wc_seq ?_
  refine wc_plain [(0, .x true), (1, .x true), (2, .x true)] (by kernel_rfl) ?_
  refine ws_box rfl rfl rfl rfl ?_
  intro b2 hb2
  refine ws_box rfl rfl rfl rfl ?_
  intro b3 hb3
  refine ws_l rfl rfl rfl rfl (rd_assign rfl) ?_
  refine ws_nil ?_
  refine qe_then ?_
  refine wc_seq ?_
  refine wc_drawn mixedT _ (fun _ h => h) [(0, .r), (1, .r), (2, .r), (3, .r), (4, .x true), (5, .x true)] (by kernel_rfl) ?_
  refine ws_r rfl rfl rfl rfl (rd_sliceArr rfl Try.underlying22 rfl Try.sizeOf5) ?_
  refine ws_r rfl rfl rfl rfl (rd_str rfl Try.underlying64 Try.underlying5 Try.underlying9) ?_
  refine ws_r rfl rfl rfl rfl (rd_sliceArr rfl Try.underlying22 rfl Try.sizeOf5) ?_
  refine ws_r rfl rfl rfl rfl (rd_str rfl Try.underlying64 Try.underlying5 Try.underlying9) ?_
  refine ws_late rfl ?_
  refine ws_lp _ rfl rfl rfl rfl (rd_strlt rfl rfl) ?_ ?_
  · intro h9
    refine ws_l rfl rfl rfl rfl (rd_assign rfl) ?_
    refine ws_nil ?_
    refine qe_then ?_
    refine wc_keep [(4, _)] rfl ?_
    refine wc_ret ?_
    refine qe_body _ (.inl rfl) (res1 rfl (RV.tmp rfl)) ?_
    exact ret_end fun w hp hn ho => by simp [*]
  · intro h9
    refine ws_l rfl rfl rfl rfl (rd_assign rfl) ?_
    refine ws_nil ?_
    refine qe_then ?_
    refine wc_keep [(4, _)] rfl ?_
    refine wc_ret ?_
    refine qe_body _ (.inl rfl) (res1 rfl (RV.tmp rfl)) ?_
    exact ret_end fun w hp hn ho => by simp [*]
theorem bytescmp_ret {b b' o o' n n' c c' : Nat} {cs cs' : Array Value} {E E' : TypeId} {fr fr' : Nat × Nat} {bs bs' : List UInt8} [BytesAt cs o n bs] [BytesAt cs' o' n' bs'] (hne : b ≠ b') (w : World) (hη : HpOK [(b, .cells cs E fr), (b', .cells cs' E' fr')] w) :
    Ret Try.prog 65 [.slice (some ⟨b, o, none⟩) n c, .slice (some ⟨b', o', none⟩) n' c'] w [] (fun v _ => v = I (Lib.compareBytes bs bs'))  := by
  refine enter (n := 8) (args := [.slice (some ⟨b, o, none⟩) n c, .slice (some ⟨b', o', none⟩) n' c']) [] [(b, .cells cs E fr), (b', .cells cs' E' fr')] Try.func65 rfl rfl rfl hη (by simp [hne]) ?_
  refine wc_seq ?_
  refine wc_plain [(0, .x true)] (by kernel_rfl) ?_
  refine ws_l rfl rfl rfl rfl (rd_assign rfl) ?_
  refine ws_nil ?_
  refine qe_then ?_
  refine wc_seq ?_
  refine wc_plain [(0, .x true), (1, .x true), (2, .x true), (3, .x true)] (by kernel_rfl) ?_
  refine ws_l rfl rfl rfl rfl (rd_move rfl) ?_
  refine ws_l rfl rfl rfl rfl (rd_move rfl) ?_
  refine ws_l rfl rfl rfl rfl (rd_extern Try.func72 (by kernel_rfl) (by kernel_rfl) (by kernel_rfl) (e := Extern.BytealgCompare.compare) (by kernel_rfl) rfl rfl (fun w hp => run_compareBytes (hp b (.cells cs E fr) (by simp)) (hp b' (.cells cs' E' fr') (by simp)))) ?_
  refine ws_l rfl rfl rfl rfl (rd_assign rfl) ?_
  refine ws_nil ?_
  refine qe_then ?_
  refine wc_keep [(4, _)] rfl ?_
  refine wc_ret ?_
  refine qe_body _ (.inl rfl) (res1 rfl (RV.tmp rfl)) ?_
  exact ret_end fun w hp hn ho => rfl
set_option maxRecDepth 100000 in
set_option maxHeartbeats 1000000 in
theorem byid_ret (x y : Ent) (w : World) : Ret Try.prog 49 [entK x, entK y] w [] (fun v _ => v = I (cmpId x.id y.id)) := by
  refine enter (n := 10) (args := [entK x, entK y]) [] [] Try.func49 rfl rfl rfl (HpOK.nil w) (by simp) ?_
  refine wc_seq ?_
  refine wc_plain [(0, .x true), (1, .x true), (2, .x true)] (by kernel_rfl) ?_
  refine ws_box rfl rfl rfl rfl ?_
  intro b2 hb2
  refine ws_box rfl rfl rfl rfl ?_
  intro b3 hb3
  refine ws_l rfl rfl rfl rfl (rd_assign rfl) ?_
  refine ws_nil ?_
  refine qe_then ?_
  refine wc_seq ?_
  refine wc_drawn mixedT _ (fun _ h => h) [(0, .r), (1, .r), (2, .r), (3, .r), (4, .x true), (5, .x true)] (by kernel_rfl) ?_
  refine ws_r rfl rfl rfl rfl (rd_fieldAddr rfl) ?_
  refine ws_r rfl rfl rfl rfl (rd_sliceArr rfl Try.underlying27 rfl Try.sizeOf5) ?_
  refine ws_r rfl rfl rfl rfl (rd_fieldAddr rfl) ?_
  refine ws_r rfl rfl rfl rfl (rd_sliceArr rfl Try.underlying27 rfl Try.sizeOf5) ?_
  refine ws_late rfl ?_
  refine ws_callp rfl rfl rfl rfl rfl (En.go) (fun w hp hn ho => bytescmp_ret (b := b2) (b' := b3) (cs := entC x) (cs' := entC y) (E := 29) (E' := 29) (fr := (0, 0)) (fr' := (0, 0)) (fun e => by subst e; simp at hn) w (hp.mono (by simp))) ?_
  refine ws_l rfl rfl rfl rfl (rd_assign rfl) ?_
  refine ws_nil ?_
  refine qe_then ?_
  refine wc_keep [(4, _)] rfl ?_
  refine wc_ret ?_
  refine qe_body _ (.inl rfl) (res1 rfl (RV.tmp rfl)) ?_
  exact ret_end fun w hp hn ho => rfl
set_option maxRecDepth 100000 in
set_option maxHeartbeats 1000000 in
theorem isnan_ret (n : Int) (w : World) : Ret Try.prog 73 [I n] w [] (fun v _ => v = .bool false) := by
  refine enter (n := 6) (args := [I n]) [] [] Try.func73 rfl rfl rfl (HpOK.nil w) (by simp) ?_
  refine wc_seq ?_
  refine wc_plain [(0, .x true)] (by kernel_rfl) ?_
  refine ws_l rfl rfl rfl rfl (rd_assign rfl) ?_
  refine ws_nil ?_
  refine qe_then ?_
  refine wc_seq ?_
  refine wc_plain [(0, .x true), (1, .x true), (2, .x true), (3, .x true)] (by kernel_rfl) ?_
  refine ws_l rfl rfl rfl rfl (rd_move rfl) ?_
  refine ws_l rfl rfl rfl rfl (rd_move rfl) ?_
  refine ws_l rfl rfl rfl rfl (rd_cmp_f rfl rfl rfl (by simp [cmpP])) ?_
  refine ws_l rfl rfl rfl rfl (rd_assign rfl) ?_
  refine ws_nil ?_
  refine qe_then ?_
  refine wc_ret ?_
  refine qe_body _ (.inl rfl) (res1 rfl (RV.tmp rfl)) ?_
  exact ret_end fun w hp hn ho => rfl
set_option maxRecDepth 100000 in
set_option maxHeartbeats 1000000 in
theorem cmp_ret (m n : Int) (w : World) : Ret Try.prog 67 [I m, I n] w [] (fun v _ => v = I (cmpF m n)) := by
  refine enter (n := 20) (args := [I m, I n]) [] [] Try.func67 rfl rfl rfl (HpOK.nil w) (by simp) ?_
  refine wc_seq ?_
  refine wc_plain [(0, .x true)] (by kernel_rfl) ?_
  refine ws_l rfl rfl rfl rfl (rd_assign rfl) ?_
  refine ws_nil ?_
  refine qe_then ?_
  refine wc_seq ?_
  refine wc_plain [(0, .x true), (1, .x true), (2, .x true)] (by kernel_rfl) ?_
  refine ws_l rfl rfl rfl rfl (rd_move rfl) ?_
  refine ws_callp rfl rfl rfl rfl rfl (En.go) (fun w hp hn ho => isnan_ret _ w) ?_
  refine ws_l rfl rfl rfl rfl (rd_assign rfl) ?_
  refine ws_nil ?_
  refine qe_then ?_
  refine wc_seq ?_
  refine wc_plain [(0, .x true), (1, .x true), (2, .x true)] (by kernel_rfl) ?_
  refine ws_l rfl rfl rfl rfl (rd_move rfl) ?_
  refine ws_callp rfl rfl rfl rfl rfl (En.go) (fun w hp hn ho => isnan_ret _ w) ?_
  refine ws_l rfl rfl rfl rfl (rd_assign rfl) ?_
  refine ws_nil ?_
  refine qe_then ?_
  refine wc_seq ?_
  refine wc_seq ?_
  refine wc_plain [(0, .x true)] (by kernel_rfl) ?_
  refine ws_l rfl rfl rfl rfl (rd_move rfl) ?_
  refine ws_nil ?_
  refine qe_then ?_
  refine wc_keep [(0, _), (1, _), (4, _), (6, _), (11, _)] rfl ?_
  refine wc_false rfl ?_
  refine wc_skip ?_
  refine qe_then ?_
  refine wc_seq ?_
  refine wc_seq ?_
  refine wc_plain [(0, .x true)] (by kernel_rfl) ?_
  refine ws_l rfl rfl rfl rfl (rd_move rfl) ?_
  refine ws_nil ?_
  refine qe_then ?_
  refine wc_false rfl ?_
  refine wc_skip ?_
  refine qe_then ?_
  refine wc_seq ?_
  refine wc_seq ?_
  refine wc_plain [(0, .x true), (1, .x true), (2, .x true)] (by kernel_rfl) ?_
  refine ws_l rfl rfl rfl rfl (rd_move rfl) ?_
  refine ws_l rfl rfl rfl rfl (rd_move rfl) ?_
  refine ws_lcmp rfl rfl rfl (rfl) (rfl) (rfl) ?_ ?_
  · intro h16
    refine ws_nil ?_
    refine qe_then ?_
    refine wc_keep [(0, _), (1, _), (4, _), (16, _)] rfl ?_
    refine wc_true rfl ?_
    refine wc_seq ?_
    refine wc_plain [(0, .x true)] (by kernel_rfl) ?_
    refine ws_l rfl rfl rfl rfl (rd_assign rfl) ?_
    refine ws_nil ?_
    refine qe_then ?_
    refine wc_ret ?_
    refine qe_then_ret ?_
    refine qe_body _ (.inl rfl) (res1 rfl (RV.tmp rfl)) ?_
    exact ret_end fun w hp hn ho => by simp only [cmpF]; split <;> first | rfl | (split <;> first | rfl | omega) | omega
  · intro h16
    refine ws_nil ?_
    refine qe_then ?_
    refine wc_keep [(0, _), (1, _), (4, _), (16, _)] rfl ?_
    refine wc_false rfl ?_
    refine wc_skip ?_
    refine qe_then ?_
    refine wc_seq ?_
    refine wc_seq ?_
    refine wc_plain [(0, .x true), (1, .x true), (2, .x true)] (by kernel_rfl) ?_
    refine ws_l rfl rfl rfl rfl (rd_move rfl) ?_
    refine ws_l rfl rfl rfl rfl (rd_move rfl) ?_
    refine ws_lcmp rfl rfl rfl (rfl) (rfl) (rfl) ?_ ?_
    · intro h19
      refine ws_nil ?_
      refine qe_then ?_
      refine wc_keep [(4, _), (19, _)] rfl ?_
      refine wc_true rfl ?_
      refine wc_seq ?_
      refine wc_plain [(0, .x true)] (by kernel_rfl) ?_
      refine ws_l rfl rfl rfl rfl (rd_assign rfl) ?_
      refine ws_nil ?_
      refine qe_then ?_
      refine wc_ret ?_
      refine qe_then_ret ?_
      refine qe_body _ (.inl rfl) (res1 rfl (RV.tmp rfl)) ?_
      exact ret_end fun w hp hn ho => by simp only [cmpF]; split <;> first | rfl | (split <;> first | rfl | omega) | omega
    · intro h19
      refine ws_nil ?_
      refine qe_then ?_
      refine wc_keep [(4, _), (19, _)] rfl ?_
      refine wc_false rfl ?_
      refine wc_skip ?_
      refine qe_then ?_
      refine wc_seq ?_
      refine wc_plain [(0, .x true)] (by kernel_rfl) ?_
      refine ws_l rfl rfl rfl rfl (rd_assign rfl) ?_
      refine ws_nil ?_
      refine qe_then ?_
      refine wc_ret ?_
      refine qe_body _ (.inl rfl) (res1 rfl (RV.tmp rfl)) ?_
      exact ret_end fun w hp hn ho => by simp only [cmpF]; split <;> first | rfl | (split <;> first | rfl | omega) | omega
set_option maxRecDepth 100000 in
set_option maxHeartbeats 1000000 in
theorem or_ret (b : Nat) (xs : List Int) (hlen : xs.length < 1048576) (w : World) (hη : HpOK [(b, .cells (xs.map I).toArray 3 (0, 0))] w) : Ret Try.prog 66 [.slice (some ⟨b, 0, none⟩) xs.length xs.length] w [] (fun v _ => v = I (orF xs)) := by
  refine enter (n := 18) (args := [.slice (some ⟨b, 0, none⟩) xs.length xs.length]) [] [(b, .cells (xs.map I).toArray 3 (0, 0))] Try.func66 rfl rfl rfl hη (by simp) ?_
  refine wc_seq ?_
  refine wc_plain [(0, .x true)] (by kernel_rfl) ?_
  refine ws_l rfl rfl rfl rfl (rd_assign rfl) ?_
  refine ws_nil ?_
  refine qe_then ?_
  refine wc_seq ?_
  refine wc_plain [(0, .x true)] (by kernel_rfl) ?_
  refine ws_l rfl rfl rfl rfl (rd_assign rfl) ?_
  refine ws_nil ?_
  refine qe_then ?_
  refine wc_seq ?_
  refine wc_seq ?_
  refine wc_plain [(0, .x true), (1, .x true), (2, .x true)] (by kernel_rfl) ?_
  refine ws_l rfl rfl rfl rfl (rd_move rfl) ?_
  refine ws_l rfl rfl rfl rfl (rd_len rfl Try.underlying112) ?_
  refine ws_l rfl rfl rfl rfl (rd_move rfl) ?_
  refine ws_nil ?_
  refine qe_then ?_
  refine wc_block ?_
  refine wc_loop (fun mz ac w1 => ∃ (j : Nat), mz = xs.length - j ∧ (j ≤ xs.length) ∧ (orF (xs.drop j) = orF xs) ∧ St 18 w [] [(3, I 0), (6, .slice (some ⟨b, 0, none⟩) xs.length xs.length), (7, I xs.length), (8, I j)] [(b, .cells (xs.map I).toArray 3 (0, 0))] ac w1) _ (fun ac w1 hs => ⟨0, rfl, (by omega), (by simp), st_sub hs _ rfl⟩) ?_
  rintro _ ac1 wl1 ⟨j, rfl, hj, hf, hs1⟩
  refine wc_at hs1 ?_
  refine wc_seq ?_
  refine wc_plain [(0, .x true)] (by kernel_rfl) ?_
  refine ws_lcmp rfl rfl rfl (rfl) (rfl) (rfl) ?_ ?_
  · intro h9
    refine ws_nil ?_
    refine qe_then ?_
    refine wc_seq ?_
    refine wc_true rfl ?_
    refine wc_skip ?_
    refine qe_then ?_
    refine wc_seq ?_
    refine wc_block ?_
    refine wc_seq ?_
    refine wc_plain [(0, .x true), (1, .x true), (2, .x true)] (by kernel_rfl) ?_
    obtain ⟨x, hx⟩ := at_ex (l := xs) (j := j) (by omega)
    have atx : GetAt (xs.map I).toArray (j * 1) (I x) := ⟨by simp [hx]⟩
    refine ws_l rfl rfl rfl rfl (rd_ix rfl rfl Try.underlying112 Try.sizeOf3 (by omega)) ?_
    refine ws_l rfl rfl rfl rfl (rd_load rfl) ?_
    refine ws_l rfl rfl rfl rfl (rd_assign rfl) ?_
    refine ws_nil ?_
    refine qe_then ?_
    refine wc_seq ?_
    refine wc_plain [(0, .x true), (1, .x true), (2, .x true)] (by kernel_rfl) ?_
    refine ws_l rfl rfl rfl rfl (rd_move rfl) ?_
    refine ws_l rfl rfl rfl rfl (rd_move rfl) ?_
    refine ws_lcmp rfl rfl rfl (rfl) (rfl) (rfl) ?_ ?_
    · intro h14
      refine ws_nil ?_
      refine qe_then ?_
      refine wc_true rfl ?_
      refine wc_seq ?_
      refine wc_plain [(0, .x true), (1, .x true)] (by kernel_rfl) ?_
      refine ws_l rfl rfl rfl rfl (rd_move rfl) ?_
      refine ws_l rfl rfl rfl rfl (rd_assign rfl) ?_
      refine ws_nil ?_
      refine qe_then ?_
      refine wc_ret ?_
      refine qe_block_ret ?_
      refine qe_then_ret ?_
      refine qe_then_ret ?_
      refine qe_block_ret ?_
      refine qe_then_ret ?_
      refine qe_body _ (.inl rfl) (res1 rfl (RV.tmp rfl)) ?_
      exact ret_end fun w hp hn ho => by rw [← hf]; simp [orF, drop_at hx, *]
    · intro h14
      refine ws_nil ?_
      refine qe_then ?_
      refine wc_false rfl ?_
      refine wc_skip ?_
      refine qe_block ?_
      refine qe_then ?_
      refine wc_plain [(0, .x true), (1, .x true)] (by kernel_rfl) ?_
      refine ws_l rfl rfl rfl rfl (rd_arith (((j + 1 : Nat) : Int)) rfl rfl rfl (by rw [wrap_i64 _ (by omega) (by omega)]; omega)) ?_
      refine ws_l rfl rfl rfl rfl (rd_move rfl) ?_
      refine ws_nil ?_
      exact qe_loop fun ac2 w2 hs2 => ⟨_, by omega, j + 1, rfl, (by omega), (by rw [← hf, drop_at hx]; have h0 : x = 0 := (by omega); simp [orF, h0]), st_sub hs2 _ rfl⟩
  · intro h9
    refine ws_nil ?_
    refine qe_then ?_
    refine wc_seq ?_
    refine wc_false rfl ?_
    refine wc_exit ?_
    refine qe_then_exit ?_
    refine qe_then_exit ?_
    refine qe_block_exit ?_
    refine qe_then ?_
    refine wc_seq ?_
    refine wc_plain [(0, .x true), (1, .x true)] (by kernel_rfl) ?_
    refine ws_l rfl rfl rfl rfl (rd_move rfl) ?_
    refine ws_l rfl rfl rfl rfl (rd_assign rfl) ?_
    refine ws_nil ?_
    refine qe_then ?_
    refine wc_keep [(2, _)] rfl ?_
    refine wc_ret ?_
    refine qe_body _ (.inl rfl) (res1 rfl (RV.tmp rfl)) ?_
    exact ret_end fun w hp hn ho => by rw [← hf, List.drop_eq_nil_of_le (by omega)]; rfl
set_option maxRecDepth 100000 in
set_option maxHeartbeats 1000000 in
theorem byarr_ret (x y : Ent) (w : World) : Ret Try.prog 53 [entK x, entK y] w [] (fun v _ => v = I (cmpArr x y)) := by
  refine enter (n := 15) (args := [entK x, entK y]) [] [] Try.func53 rfl rfl rfl (HpOK.nil w) (by simp) ?_
  refine wc_seq ?_
  refine wc_plain [(0, .x true), (1, .x true), (2, .x true)] (by kernel_rfl) ?_
  refine ws_box rfl rfl rfl rfl ?_
  intro b2 hb2
  refine ws_box rfl rfl rfl rfl ?_
  intro b3 hb3
  refine ws_l rfl rfl rfl rfl (rd_assign rfl) ?_
  refine ws_nil ?_
  refine qe_then ?_
  refine wc_seq ?_
  refine wc_drawn mixedT _ (fun _ h => h) [(0, .r), (1, .r), (2, .r), (3, .r), (5, .r), (6, .r), (4, .x false), (7, .x true), (8, .x true), (9, .x true), (10, .x true)] (by kernel_rfl) ?_
  refine ws_r rfl rfl rfl rfl (rd_fieldAddr rfl) ?_
  refine ws_r rfl rfl rfl rfl (rd_load rfl) ?_
  refine ws_r rfl rfl rfl rfl (rd_fieldAddr rfl) ?_
  refine ws_r rfl rfl rfl rfl (rd_load rfl) ?_
  refine ws_r rfl rfl rfl rfl (rd_load rfl) ?_
  refine ws_r rfl rfl rfl rfl (rd_load rfl) ?_
  refine ws_callp rfl rfl rfl rfl rfl (En.go) (fun w hp hn ho => cmp_ret _ _ w) ?_
  refine ws_late rfl ?_
  refine ws_callp rfl rfl rfl rfl rfl (En.go) (fun w hp hn ho => byid_ret _ _ w) ?_
  refine ws_buildSlice rfl rfl rfl rfl ?_
  intro b13 hb13
  refine ws_callp rfl rfl rfl rfl rfl (En.go) (fun w hp hn ho => or_ret b13 [cmpF x.arr y.arr, cmpId x.id y.id] (by simp) w (hp.mono (by simp))) ?_
  refine ws_l rfl rfl rfl rfl (rd_assign rfl) ?_
  refine ws_nil ?_
  refine qe_then ?_
  refine wc_keep [(4, _)] rfl ?_
  refine wc_ret ?_
  refine qe_body _ (.inl rfl) (res1 rfl (RV.tmp rfl)) ?_
  exact ret_end fun w hp hn ho => by simp [cmpArr, orF]; try (split <;> (try simp [*]) <;> omega)
set_option maxRecDepth 100000 in
set_option maxHeartbeats 1000000 in
theorem keep_ret (b : Nat) (now : Int) (h1 : 0 ≤ now ∧ now ≤ 105190559) (x : Ent) (w : World) (hη : HpOK [(b, .cells #[I now] 3 (0, 0))] w) : Ret Try.prog 48 [entK x, ptr b] w [] (fun v _ => v = .bool (goneB x now)) := by
  refine enter (n := 18) (args := [entK x, ptr b]) [] [(b, .cells #[I now] 3 (0, 0))] Try.func48 rfl rfl rfl hη (by simp) ?_
  refine wc_seq ?_
  refine wc_plain [(0, .x true), (1, .x true)] (by kernel_rfl) ?_
  refine ws_box rfl rfl rfl rfl ?_
  intro b2 hb2
  refine ws_l rfl rfl rfl rfl (rd_assign rfl) ?_
  refine ws_nil ?_
  refine qe_then ?_
  refine wc_seq ?_
  refine wc_plain [(0, .x true), (1, .x true), (2, .x true), (3, .x true), (4, .x true), (5, .x true), (6, .x true), (7, .x true), (8, .x true), (9, .x true), (10, .x true), (11, .x true), (12, .x true), (13, .x true), (14, .x true)] (by kernel_rfl) ?_
  refine ws_l rfl rfl rfl rfl (rd_fieldAddr rfl) ?_
  refine ws_l rfl rfl rfl rfl (rd_load rfl) ?_
  refine ws_lcmp rfl rfl rfl (rfl) (rfl) (rfl) ?_ ?_
  · intro h6
    refine ws_l rfl rfl rfl rfl (rd_move rfl) ?_
    refine ws_l rfl rfl rfl rfl (rd_fieldAddr rfl) ?_
    refine ws_lb _ rfl rfl rfl rfl (rd_load rfl) ?_ ?_
    · intro h9
      refine ws_l rfl rfl rfl rfl (rd_not rfl) ?_
      refine ws_l rfl rfl rfl rfl (rd_pick_t rfl rfl) ?_
      refine ws_l rfl rfl rfl rfl (rd_move rfl) ?_
      refine ws_xskip rfl rfl rfl rfl ?_
      refine ws_xskip rfl rfl rfl rfl ?_
      refine ws_xskip rfl rfl rfl rfl ?_
      refine ws_xskip rfl rfl rfl rfl ?_
      refine ws_l rfl rfl rfl rfl (rd_pick_f rfl rfl) ?_
      refine ws_l rfl rfl rfl rfl (rd_assign rfl) ?_
      refine ws_nil ?_
      refine qe_then ?_
      refine wc_keep [(3, _)] rfl ?_
      refine wc_ret ?_
      refine qe_body _ (.inl rfl) (res1 rfl (RV.tmp rfl)) ?_
      exact ret_end fun w hp hn ho => by (try simp only [cmpP, ne_eq, Decidable.not_not] at *); simp [goneB, *]
    · intro h9
      refine ws_l rfl rfl rfl rfl (rd_not rfl) ?_
      refine ws_l rfl rfl rfl rfl (rd_pick_t rfl rfl) ?_
      refine ws_l rfl rfl rfl rfl (rd_move rfl) ?_
      refine ws_l rfl rfl rfl rfl (rd_fieldAddr rfl) ?_
      refine ws_l rfl rfl rfl rfl (rd_load rfl) ?_
      refine ws_l rfl rfl rfl rfl (rd_load rfl) ?_
      refine ws_callb (oldB _ _) rfl rfl rfl rfl rfl (En.go) (fun w hp hn ho => old_ret _ _ w (by omega) (by omega)) ?_ ?_
      · intro h16
        refine ws_l rfl rfl rfl rfl (rd_pick_t rfl rfl) ?_
        refine ws_l rfl rfl rfl rfl (rd_assign rfl) ?_
        refine ws_nil ?_
        refine qe_then ?_
        refine wc_keep [(3, _)] rfl ?_
        refine wc_ret ?_
        refine qe_body _ (.inl rfl) (res1 rfl (RV.tmp rfl)) ?_
        exact ret_end fun w hp hn ho => by (try simp only [cmpP, ne_eq, Decidable.not_not] at *); simp [goneB, *]
      · intro h16
        refine ws_l rfl rfl rfl rfl (rd_pick_t rfl rfl) ?_
        refine ws_l rfl rfl rfl rfl (rd_assign rfl) ?_
        refine ws_nil ?_
        refine qe_then ?_
        refine wc_keep [(3, _)] rfl ?_
        refine wc_ret ?_
        refine qe_body _ (.inl rfl) (res1 rfl (RV.tmp rfl)) ?_
        exact ret_end fun w hp hn ho => by (try simp only [cmpP, ne_eq, Decidable.not_not] at *); simp [goneB, *]
  · intro h6
    refine ws_l rfl rfl rfl rfl (rd_move rfl) ?_
    refine ws_xskip rfl rfl rfl rfl ?_
    refine ws_xskip rfl rfl rfl rfl ?_
    refine ws_xskip rfl rfl rfl rfl ?_
    refine ws_l rfl rfl rfl rfl (rd_pick_f rfl rfl) ?_
    refine ws_l rfl rfl rfl rfl (rd_move rfl) ?_
    refine ws_xskip rfl rfl rfl rfl ?_
    refine ws_xskip rfl rfl rfl rfl ?_
    refine ws_xskip rfl rfl rfl rfl ?_
    refine ws_xskip rfl rfl rfl rfl ?_
    refine ws_l rfl rfl rfl rfl (rd_pick_f rfl rfl) ?_
    refine ws_l rfl rfl rfl rfl (rd_assign rfl) ?_
    refine ws_nil ?_
    refine qe_then ?_
    refine wc_keep [(3, _)] rfl ?_
    refine wc_ret ?_
    refine qe_body _ (.inl rfl) (res1 rfl (RV.tmp rfl)) ?_
    exact ret_end fun w hp hn ho => by (try simp only [cmpP, ne_eq, Decidable.not_not] at *); simp [goneB, *]
set_option maxRecDepth 100000 in
set_option maxHeartbeats 1000000 in
theorem since_keep (b : Nat) (now : Int) (x : Ent) (w : World) (hη : HpOK [(b, .cells #[I now] 3 (0, 0))] w) : Ret Try.prog 52 [entK x, ptr b] w [] (fun v _ => v = .bool (decide (now ≤ x.arr))) := by
  refine enter (n := 8) (args := [entK x, ptr b]) [] [(b, .cells #[I now] 3 (0, 0))] Try.func52 rfl rfl rfl hη (by simp) ?_
  refine wc_seq ?_
  refine wc_plain [(0, .x true), (1, .x true)] (by kernel_rfl) ?_
  refine ws_box rfl rfl rfl rfl ?_
  intro b2 hb2
  refine ws_l rfl rfl rfl rfl (rd_assign rfl) ?_
  refine ws_nil ?_
  refine qe_then ?_
  refine wc_seq ?_
  refine wc_plain [(0, .x true), (1, .x true), (2, .x true), (3, .x true), (4, .x true)] (by kernel_rfl) ?_
  refine ws_l rfl rfl rfl rfl (rd_fieldAddr rfl) ?_
  refine ws_l rfl rfl rfl rfl (rd_load rfl) ?_
  refine ws_l rfl rfl rfl rfl (rd_load rfl) ?_
  refine ws_lcmp rfl rfl rfl (rfl) (rfl) (rfl) ?_ ?_
  · intro h7
    refine ws_l rfl rfl rfl rfl (rd_assign rfl) ?_
    refine ws_nil ?_
    refine qe_then ?_
    refine wc_keep [(3, _)] rfl ?_
    refine wc_ret ?_
    refine qe_body _ (.inl rfl) (res1 rfl (RV.tmp rfl)) ?_
    exact ret_end fun w hp hn ho => by (try simp only [cmpP, ne_eq, Decidable.not_not] at *); simp; omega
  · intro h7
    refine ws_l rfl rfl rfl rfl (rd_assign rfl) ?_
    refine ws_nil ?_
    refine qe_then ?_
    refine wc_keep [(3, _)] rfl ?_
    refine wc_ret ?_
    refine qe_body _ (.inl rfl) (res1 rfl (RV.tmp rfl)) ?_
    exact ret_end fun w hp hn ho => by (try simp only [cmpP, ne_eq, Decidable.not_not] at *); simp; omega
set_option maxRecDepth 100000 in
set_option maxHeartbeats 1000000 in
theorem every_ret (x : Ent) (w : World) : Ret Try.prog 51 [entK x] w [] (fun v _ => v = .bool true) := by
  refine enter (n := 3) (args := [entK x]) [] [] Try.func51 rfl rfl rfl (HpOK.nil w) (by simp) ?_
  refine wc_seq ?_
  refine wc_plain [(0, .x true), (1, .x true)] (by kernel_rfl) ?_
  refine ws_box rfl rfl rfl rfl ?_
  intro b1 hb1
  refine ws_l rfl rfl rfl rfl (rd_assign rfl) ?_
  refine ws_nil ?_
  refine qe_then ?_
  refine wc_seq ?_
  refine wc_plain [(0, .x true)] (by kernel_rfl) ?_
  refine ws_l rfl rfl rfl rfl (rd_assign rfl) ?_
  refine ws_nil ?_
  refine qe_then ?_
  refine wc_ret ?_
  refine qe_body _ (.inl rfl) (res1 rfl (RV.tmp rfl)) ?_
  exact ret_end fun w hp hn ho => rfl
set_option maxRecDepth 100000 in
set_option maxHeartbeats 1000000 in
theorem judge_ref (v : Value) (ν : Heap) (rows : List Ent) (hown : OwnR 0 24 36 v ν rows.length (rows.flatMap entL)) (hlen : rows.length < 1048576) (hν : ∀ (w : World), HpOK ν w → True) (cut : Int) (hcut : 0 ≤ cut ∧ cut ≤ 105190559) (id : Id) (date now : Int) (perm : Bool) (w : World) (hw : HpOK ν w) (hnd : (ν.map Prod.fst).Nodup) : Ret Try.prog 18 [v, I cut, idK id, I date, I now, .bool perm] w [] (fun u _ => u = I (judgeF (decide (0 ≤ findF id rows 0)) cut date now perm)) := by
  refine enter (n := 45) (args := [v, I cut, idK id, I date, I now, .bool perm]) [] ν Try.func18 rfl rfl rfl hw hnd ?_
  refine wc_seq ?_
  refine wc_plain [(0, .x true), (1, .x true)] (by kernel_rfl) ?_
  refine ws_box rfl rfl rfl rfl ?_
  intro b8 hb8
  refine ws_l rfl rfl rfl rfl (rd_assign rfl) ?_
  refine ws_nil ?_
  refine qe_then ?_
  refine wc_seq ?_
  refine wc_block ?_
  refine wc_seq ?_
  refine wc_plain [(0, .x true), (1, .x true), (2, .x true), (3, .x true), (4, .x true), (5, .x true), (6, .x true), (7, .x true), (8, .x true)] (by kernel_rfl) ?_
  refine ws_l rfl rfl rfl rfl (rd_move rfl) ?_
  refine ws_callb (minuteB _) rfl rfl rfl rfl rfl (En.go) (fun w hp hn ho => minute_ref _ w) ?_ ?_
  · intro h15
    have hb15 := minuteB_bounds h15
    refine ws_l rfl rfl rfl rfl (rd_not rfl) ?_
    refine ws_l rfl rfl rfl rfl (rd_move rfl) ?_
    refine ws_l rfl rfl rfl rfl (rd_move rfl) ?_
    refine ws_callb (minuteB _) rfl rfl rfl rfl rfl (En.go) (fun w hp hn ho => minute_ref _ w) ?_ ?_
    · intro h19
      have hb19 := minuteB_bounds h19
      refine ws_l rfl rfl rfl rfl (rd_not rfl) ?_
      refine ws_l rfl rfl rfl rfl (rd_pick_f rfl rfl) ?_
      refine ws_l rfl rfl rfl rfl (rd_assign rfl) ?_
      refine ws_nil ?_
      refine qe_then ?_
      refine wc_keep [(0, _), (1, _), (3, _), (4, _), (5, _), (8, _), (12, _), (13, _)] rfl ?_
      refine wc_false rfl ?_
      refine wc_seq ?_
      refine wc_plain [(0, .x true), (1, .x true), (2, .x true), (3, .x true), (4, .x true)] (by kernel_rfl) ?_
      refine ws_l rfl rfl rfl rfl (rd_move rfl) ?_
      refine ws_l rfl rfl rfl rfl (rd_load rfl) ?_
      refine ws_callp rfl rfl rfl rfl rfl (En.go) (fun w hp hn ho => find_ref v ν rows hown hlen id w (fun b o hm => hp b o (by simp [hm])) hnd) ?_
      refine ws_lcmp rfl rfl rfl (rfl) (rfl) (rfl) ?_ ?_
      · intro h26
        refine ws_l rfl rfl rfl rfl (rd_assign rfl) ?_
        refine ws_nil ?_
        refine qe_then ?_
        refine wc_keep [(1, _), (3, _), (4, _), (5, _), (12, _), (22, _)] rfl ?_
        refine wc_true rfl ?_
        refine wc_seq ?_
        refine wc_plain [(0, .x true)] (by kernel_rfl) ?_
        refine ws_l rfl rfl rfl rfl (rd_assign rfl) ?_
        refine ws_nil ?_
        refine qe_then ?_
        refine wc_keep [(12, _)] rfl ?_
        refine wc_ret ?_
        refine qe_block_ret ?_
        refine qe_then_ret ?_
        refine qe_body _ (.inl rfl) (res1 rfl (RV.tmp rfl)) ?_
        exact ret_end fun w hp hn ho => by (try simp only [cmpP, ne_eq, Decidable.not_not] at *); simp [judgeF, *]; try omega
      · intro h26
        refine ws_l rfl rfl rfl rfl (rd_assign rfl) ?_
        refine ws_nil ?_
        refine qe_then ?_
        refine wc_keep [(1, _), (3, _), (4, _), (5, _), (12, _), (22, _)] rfl ?_
        refine wc_false rfl ?_
        refine wc_seq ?_
        refine wc_plain [(0, .x true), (1, .x true), (2, .x true), (3, .x true), (4, .x true)] (by kernel_rfl) ?_
        refine ws_l rfl rfl rfl rfl (rd_move rfl) ?_
        refine ws_l rfl rfl rfl rfl (rd_move rfl) ?_
        refine ws_l rfl rfl rfl rfl (rd_arith _ rfl rfl rfl (wrap_i64 _ (by omega) (by omega))) ?_
        refine ws_lcmp rfl rfl rfl (rfl) (rfl) (rfl) ?_ ?_
        · intro h31
          refine ws_l rfl rfl rfl rfl (rd_assign rfl) ?_
          refine ws_nil ?_
          refine qe_then ?_
          refine wc_keep [(1, _), (3, _), (4, _), (5, _), (12, _), (27, _)] rfl ?_
          refine wc_true rfl ?_
          refine wc_seq ?_
          refine wc_plain [(0, .x true)] (by kernel_rfl) ?_
          refine ws_l rfl rfl rfl rfl (rd_assign rfl) ?_
          refine ws_nil ?_
          refine qe_then ?_
          refine wc_keep [(12, _)] rfl ?_
          refine wc_ret ?_
          refine qe_block_ret ?_
          refine qe_then_ret ?_
          refine qe_body _ (.inl rfl) (res1 rfl (RV.tmp rfl)) ?_
          exact ret_end fun w hp hn ho => by (try simp only [cmpP, ne_eq, Decidable.not_not] at *); simp [judgeF, *]; try omega
        · intro h31
          refine ws_l rfl rfl rfl rfl (rd_assign rfl) ?_
          refine ws_nil ?_
          refine qe_then ?_
          refine wc_keep [(1, _), (3, _), (4, _), (5, _), (12, _), (27, _)] rfl ?_
          refine wc_false rfl ?_
          refine wc_seq ?_
          refine wc_plain [(0, .x true), (1, .x true), (2, .x true), (3, .x true), (4, .x true), (5, .x true), (6, .x true), (7, .x true), (8, .x true), (9, .x true), (10, .x true), (11, .x true), (12, .x true)] (by kernel_rfl) ?_
          refine ws_l rfl rfl rfl rfl (rd_move rfl) ?_
          refine ws_l rfl rfl rfl rfl (rd_move rfl) ?_
          refine ws_callb (oldB _ _) rfl rfl rfl rfl rfl (En.go) (fun w hp hn ho => old_ref _ _ w (by omega) (by omega)) ?_ ?_
          · intro h35
            refine ws_l rfl rfl rfl rfl (rd_move rfl) ?_
            refine ws_xskip rfl rfl rfl rfl ?_
            refine ws_xskip rfl rfl rfl rfl ?_
            refine ws_xskip rfl rfl rfl rfl ?_
            refine ws_l rfl rfl rfl rfl (rd_pick_t rfl rfl) ?_
            refine ws_l rfl rfl rfl rfl (rd_move rfl) ?_
            cases perm
            ·
              refine ws_l rfl rfl rfl rfl (rd_move rfl) ?_
              refine ws_l rfl rfl rfl rfl (rd_not rfl) ?_
              refine ws_l rfl rfl rfl rfl (rd_pick_t rfl rfl) ?_
              refine ws_l rfl rfl rfl rfl (rd_assign rfl) ?_
              refine ws_nil ?_
              refine qe_then ?_
              refine wc_keep [(12, _), (32, _)] rfl ?_
              refine wc_true rfl ?_
              refine wc_seq ?_
              refine wc_plain [(0, .x true)] (by kernel_rfl) ?_
              refine ws_l rfl rfl rfl rfl (rd_assign rfl) ?_
              refine ws_nil ?_
              refine qe_then ?_
              refine wc_ret ?_
              refine qe_block_ret ?_
              refine qe_then_ret ?_
              refine qe_body _ (.inl rfl) (res1 rfl (RV.tmp rfl)) ?_
              exact ret_end fun w hp hn ho => by (try simp only [cmpP, ne_eq, Decidable.not_not] at *); simp [judgeF, *]; try omega
            ·
              refine ws_l rfl rfl rfl rfl (rd_move rfl) ?_
              refine ws_l rfl rfl rfl rfl (rd_not rfl) ?_
              refine ws_l rfl rfl rfl rfl (rd_pick_t rfl rfl) ?_
              refine ws_l rfl rfl rfl rfl (rd_assign rfl) ?_
              refine ws_nil ?_
              refine qe_then ?_
              refine wc_keep [(12, _), (32, _)] rfl ?_
              refine wc_false rfl ?_
              refine wc_skip ?_
              refine qe_block ?_
              refine qe_then ?_
              refine wc_seq ?_
              refine wc_plain [(0, .x true)] (by kernel_rfl) ?_
              refine ws_l rfl rfl rfl rfl (rd_assign rfl) ?_
              refine ws_nil ?_
              refine qe_then ?_
              refine wc_ret ?_
              refine qe_body _ (.inl rfl) (res1 rfl (RV.tmp rfl)) ?_
              exact ret_end fun w hp hn ho => by (try simp only [cmpP, ne_eq, Decidable.not_not] at *); simp [judgeF, *]; try omega
          · intro h35
            refine ws_l rfl rfl rfl rfl (rd_move rfl) ?_
            refine ws_l rfl rfl rfl rfl (rd_move rfl) ?_
            refine ws_l rfl rfl rfl rfl (rd_move rfl) ?_
            refine ws_callb (oldB _ _) rfl rfl rfl rfl rfl (En.go) (fun w hp hn ho => old_ref _ _ w (by omega) (by omega)) ?_ ?_
            · intro h39
              refine ws_l rfl rfl rfl rfl (rd_pick_f rfl rfl) ?_
              refine ws_l rfl rfl rfl rfl (rd_move rfl) ?_
              cases perm
              ·
                refine ws_l rfl rfl rfl rfl (rd_move rfl) ?_
                refine ws_l rfl rfl rfl rfl (rd_not rfl) ?_
                refine ws_l rfl rfl rfl rfl (rd_pick_t rfl rfl) ?_
                refine ws_l rfl rfl rfl rfl (rd_assign rfl) ?_
                refine ws_nil ?_
                refine qe_then ?_
                refine wc_keep [(12, _), (32, _)] rfl ?_
                refine wc_true rfl ?_
                refine wc_seq ?_
                refine wc_plain [(0, .x true)] (by kernel_rfl) ?_
                refine ws_l rfl rfl rfl rfl (rd_assign rfl) ?_
                refine ws_nil ?_
                refine qe_then ?_
                refine wc_ret ?_
                refine qe_block_ret ?_
                refine qe_then_ret ?_
                refine qe_body _ (.inl rfl) (res1 rfl (RV.tmp rfl)) ?_
                exact ret_end fun w hp hn ho => by (try simp only [cmpP, ne_eq, Decidable.not_not] at *); simp [judgeF, *]; try omega
              ·
                refine ws_l rfl rfl rfl rfl (rd_move rfl) ?_
                refine ws_l rfl rfl rfl rfl (rd_not rfl) ?_
                refine ws_l rfl rfl rfl rfl (rd_pick_t rfl rfl) ?_
                refine ws_l rfl rfl rfl rfl (rd_assign rfl) ?_
                refine ws_nil ?_
                refine qe_then ?_
                refine wc_keep [(12, _), (32, _)] rfl ?_
                refine wc_false rfl ?_
                refine wc_skip ?_
                refine qe_block ?_
                refine qe_then ?_
                refine wc_seq ?_
                refine wc_plain [(0, .x true)] (by kernel_rfl) ?_
                refine ws_l rfl rfl rfl rfl (rd_assign rfl) ?_
                refine ws_nil ?_
                refine qe_then ?_
                refine wc_ret ?_
                refine qe_body _ (.inl rfl) (res1 rfl (RV.tmp rfl)) ?_
                exact ret_end fun w hp hn ho => by (try simp only [cmpP, ne_eq, Decidable.not_not] at *); simp [judgeF, *]; try omega
            · intro h39
              refine ws_l rfl rfl rfl rfl (rd_pick_f rfl rfl) ?_
              refine ws_l rfl rfl rfl rfl (rd_move rfl) ?_
              refine ws_xskip rfl rfl rfl rfl ?_
              refine ws_xskip rfl rfl rfl rfl ?_
              refine ws_l rfl rfl rfl rfl (rd_pick_f rfl rfl) ?_
              refine ws_l rfl rfl rfl rfl (rd_assign rfl) ?_
              refine ws_nil ?_
              refine qe_then ?_
              refine wc_keep [(12, _), (32, _)] rfl ?_
              refine wc_false rfl ?_
              refine wc_skip ?_
              refine qe_block ?_
              refine qe_then ?_
              refine wc_seq ?_
              refine wc_plain [(0, .x true)] (by kernel_rfl) ?_
              refine ws_l rfl rfl rfl rfl (rd_assign rfl) ?_
              refine ws_nil ?_
              refine qe_then ?_
              refine wc_ret ?_
              refine qe_body _ (.inl rfl) (res1 rfl (RV.tmp rfl)) ?_
              exact ret_end fun w hp hn ho => by (try simp only [cmpP, ne_eq, Decidable.not_not] at *); simp [judgeF, *]; try omega
    · intro h19
      refine ws_l rfl rfl rfl rfl (rd_not rfl) ?_
      refine ws_l rfl rfl rfl rfl (rd_pick_f rfl rfl) ?_
      refine ws_l rfl rfl rfl rfl (rd_assign rfl) ?_
      refine ws_nil ?_
      refine qe_then ?_
      refine wc_keep [(0, _), (1, _), (3, _), (4, _), (5, _), (8, _), (12, _), (13, _)] rfl ?_
      refine wc_true rfl ?_
      refine wc_seq ?_
      refine wc_plain [(0, .x true)] (by kernel_rfl) ?_
      refine ws_l rfl rfl rfl rfl (rd_assign rfl) ?_
      refine ws_nil ?_
      refine qe_then ?_
      refine wc_keep [(12, _)] rfl ?_
      refine wc_ret ?_
      refine qe_block_ret ?_
      refine qe_then_ret ?_
      refine qe_body _ (.inl rfl) (res1 rfl (RV.tmp rfl)) ?_
      exact ret_end fun w hp hn ho => by (try simp only [cmpP, ne_eq, Decidable.not_not] at *); simp [judgeF, *]; try omega
  · intro h15
    refine ws_l rfl rfl rfl rfl (rd_not rfl) ?_
    refine ws_l rfl rfl rfl rfl (rd_move rfl) ?_
    refine ws_xskip rfl rfl rfl rfl ?_
    refine ws_xskip rfl rfl rfl rfl ?_
    refine ws_xskip rfl rfl rfl rfl ?_
    refine ws_l rfl rfl rfl rfl (rd_pick_t rfl rfl) ?_
    refine ws_l rfl rfl rfl rfl (rd_assign rfl) ?_
    refine ws_nil ?_
    refine qe_then ?_
    refine wc_keep [(0, _), (1, _), (3, _), (4, _), (5, _), (8, _), (12, _), (13, _)] rfl ?_
    refine wc_true rfl ?_
    refine wc_seq ?_
    refine wc_plain [(0, .x true)] (by kernel_rfl) ?_
    refine ws_l rfl rfl rfl rfl (rd_assign rfl) ?_
    refine ws_nil ?_
    refine qe_then ?_
    refine wc_keep [(12, _)] rfl ?_
    refine wc_ret ?_
    refine qe_block_ret ?_
    refine qe_then_ret ?_
    refine qe_body _ (.inl rfl) (res1 rfl (RV.tmp rfl)) ?_
    exact ret_end fun w hp hn ho => by (try simp only [cmpP, ne_eq, Decidable.not_not] at *); simp [judgeF, *]; try omega

end Go.Proofs.Ytegjmmjjchpeoaa
