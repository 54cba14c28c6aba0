/- Walks: Same, Since of both, HistorySince. No conditions. -/
import Derived.Test.YtegjmmjjchpeoaaW9
import Derived.Test.YtegjmmjjchpeoaaEqx
namespace Go.Proofs.Ytegjmmjjchpeoaa
open Go Go.RowKit Go.Sx
set_option linter.unusedSimpArgs false
set_option linter.unusedVariables false

set_option maxRecDepth 100000 in
set_option maxHeartbeats 1000000 in
theorem same_ret (v1 : Value) (ν1 : Heap) (xs : List Ent) (h1 : OwnR 0 24 36 v1 ν1 xs.length (xs.flatMap entL)) (v2 : Value) (ν2 : Heap) (ys : List Ent) (h2 : OwnR 0 24 36 v2 ν2 ys.length (ys.flatMap entL)) (hlen : xs.length < 1048576) (w : World) (hη : HpOK (ν1 ++ ν2) w) (hnd : ((ν1 ++ ν2).map Prod.fst).Nodup) : Ret Try.prog 25 [v1, v2] w [] (fun u _ => u = .bool (decide (xs = ys))) := by
  refine enter (n := 26) (args := [v1, v2]) [] (ν1 ++ ν2) Try.func25 rfl rfl rfl hη hnd ?_
  refine wc_seq ?_
  refine wc_plain [(0, .x true)] (by kernel_rfl) ?_
  refine ws_l rfl rfl rfl rfl (rd_assign rfl) ?_
  refine ws_nil ?_
  refine qe_then ?_
  refine wc_seq ?_
  refine wc_seq ?_
  refine wc_plain [(0, .x true), (1, .x true), (2, .x true), (3, .x true), (4, .x true)] (by kernel_rfl) ?_
  refine ws_l rfl rfl rfl rfl (rd_move rfl) ?_
  refine ws_l rfl rfl rfl rfl (rd_lenO h1 rfl Try.underlying36) ?_
  refine ws_l rfl rfl rfl rfl (rd_move rfl) ?_
  refine ws_l rfl rfl rfl rfl (rd_lenO h2 rfl Try.underlying36) ?_
  refine ws_lcmp rfl rfl rfl (rfl) (rfl) (rfl) ?_ ?_
  · intro h10
    refine ws_nil ?_
    refine qe_then ?_
    refine wc_true rfl ?_
    refine wc_seq ?_
    refine wc_plain [(0, .x true)] (by kernel_rfl) ?_
    refine ws_l rfl rfl rfl rfl (rd_assign rfl) ?_
    refine ws_nil ?_
    refine qe_then ?_
    refine wc_keep [(0, _), (1, _), (4, _)] rfl ?_
    refine wc_ret ?_
    refine qe_then_ret ?_
    refine qe_body _ (.inl rfl) (res1 rfl (RV.tmp rfl)) ?_
    exact ret_end fun w hp hn ho => by rw [decide_eq_false (fun e => h10 (by rw [e]))]
  · intro h10
    have hll : xs.length = ys.length := by omega
    refine ws_nil ?_
    refine qe_then ?_
    refine wc_false rfl ?_
    refine wc_skip ?_
    refine qe_then ?_
    refine wc_keep [(0, _), (1, _), (4, _)] rfl ?_
    refine wc_seq ?_
    refine wc_seq ?_
    refine wc_plain [(0, .x true)] (by kernel_rfl) ?_
    refine ws_l rfl rfl rfl rfl (rd_assign rfl) ?_
    refine ws_nil ?_
    refine qe_then ?_
    refine wc_block ?_
    refine wc_loop (fun mz ac w1 => ∃ (j : Nat), mz = xs.length - j ∧ (j ≤ xs.length) ∧ (xs.take j = ys.take j) ∧ St 26 w [] [(0, v1), (1, v2), (5, I j)] (ν1 ++ ν2) ac w1) _ (fun ac w1 hs => ⟨0, rfl, (by omega), (by simp), st_sub hs _ rfl⟩) ?_
    rintro _ ac1 wl1 ⟨j, rfl, hj, hf, hs1⟩
    refine wc_at hs1 ?_
    refine wc_seq ?_
    refine wc_seq ?_
    refine wc_plain [(0, .x true), (1, .x true), (2, .x true), (3, .x true)] (by kernel_rfl) ?_
    refine ws_l rfl rfl rfl rfl (rd_move rfl) ?_
    refine ws_l rfl rfl rfl rfl (rd_move rfl) ?_
    refine ws_l rfl rfl rfl rfl (rd_lenO h1 rfl Try.underlying36) ?_
    refine ws_lcmp rfl rfl rfl (rfl) (rfl) (rfl) ?_ ?_
    · intro h14
      refine ws_nil ?_
      refine qe_then ?_
      refine wc_true rfl ?_
      refine wc_skip ?_
      refine qe_then ?_
      refine wc_seq ?_
      refine wc_block ?_
      refine wc_seq ?_
      refine wc_drawn mixedT _ (fun _ h => h) [(0, .r), (1, .r), (2, .r), (3, .r), (4, .r), (5, .r), (6, .r), (7, .r), (8, .x true)] (by kernel_rfl) ?_
      refine ws_r rfl rfl rfl rfl (rd_move rfl) ?_
      refine ws_r rfl rfl rfl rfl (rd_move rfl) ?_
      obtain ⟨gx1, capx1, curx1, rfl, rfl, hgx1, hcapx1, hcurx1⟩ := OwnR.opened h1 (by omega)
      obtain ⟨x, hx⟩ := at_ex (l := xs) (j := j) (by omega)
      have atx := at_row hcurx1 hx
      refine ws_r rfl rfl rfl rfl (rd_ix rfl rfl Try.underlying36 Try.sizeOf24 (by omega)) ?_
      refine ws_r rfl rfl rfl rfl (rd_load rfl) ?_
      refine ws_r rfl rfl rfl rfl (rd_move rfl) ?_
      refine ws_r rfl rfl rfl rfl (rd_move rfl) ?_
      obtain ⟨gy1, capy1, cury1, rfl, rfl, hgy1, hcapy1, hcury1⟩ := OwnR.opened h2 (by omega)
      obtain ⟨y, hy⟩ := at_ex (l := ys) (j := j) (by omega)
      have aty := at_row hcury1 hy
      refine ws_r rfl rfl rfl rfl (rd_ix rfl rfl Try.underlying36 Try.sizeOf24 (by omega)) ?_
      refine ws_r rfl rfl rfl rfl (rd_load rfl) ?_
      refine ws_late rfl ?_
      refine ws_lp _ rfl rfl rfl rfl (rd_neent rfl rfl (eq_ent24 _ _) (by kernel_rfl)) ?_ ?_
      · intro h25
        refine ws_nil ?_
        refine qe_then ?_
        refine wc_true rfl ?_
        refine wc_seq ?_
        refine wc_plain [(0, .x true)] (by kernel_rfl) ?_
        refine ws_l rfl rfl rfl rfl (rd_assign rfl) ?_
        refine ws_nil ?_
        refine qe_then ?_
        refine wc_ret ?_
        refine qe_block_ret ?_
        refine qe_then_ret ?_
        refine qe_then_ret ?_
        refine qe_block_ret ?_
        refine qe_then_ret ?_
        refine qe_body _ (.inl rfl) (res1 rfl (RV.tmp rfl)) ?_
        exact ret_end fun w hp hn ho => by rw [decide_eq_false (fun e => by subst e; rw [hx] at hy; cases hy; exact h25 rfl)]
      · intro h25
        refine ws_nil ?_
        refine qe_then ?_
        refine wc_false rfl ?_
        refine wc_skip ?_
        refine qe_block ?_
        refine qe_then ?_
        refine wc_plain [(0, .x true), (1, .x true), (2, .x true)] (by kernel_rfl) ?_
        refine ws_l rfl rfl rfl rfl (rd_move rfl) ?_
        refine ws_l rfl rfl rfl rfl (rd_arith (((j + 1 : Nat) : Int)) rfl rfl rfl (by rw [wrap_i64 _ (by omega) (by omega)]; omega)) ?_
        refine ws_l rfl rfl rfl rfl (rd_assign rfl) ?_
        refine ws_nil ?_
        exact qe_loop fun ac2 w2 hs2 => ⟨_, by omega, j + 1, rfl, (by omega), (by rw [take_at hx, take_at hy, hf, Decidable.of_not_not h25]), st_sub hs2 _ rfl⟩
    · intro h14
      refine ws_nil ?_
      refine qe_then ?_
      refine wc_false rfl ?_
      refine wc_exit ?_
      refine qe_then_exit ?_
      refine qe_then_exit ?_
      refine qe_block_exit ?_
      refine qe_then ?_
      refine wc_keep [] rfl ?_
      refine wc_seq ?_
      refine wc_plain [(0, .x true)] (by kernel_rfl) ?_
      refine ws_l rfl rfl rfl rfl (rd_assign rfl) ?_
      refine ws_nil ?_
      refine qe_then ?_
      refine wc_ret ?_
      refine qe_body _ (.inl rfl) (res1 rfl (RV.tmp rfl)) ?_
      exact ret_end fun w hp hn ho => by rw [List.take_of_length_le (by omega), List.take_of_length_le (by omega)] at hf; rw [decide_eq_true hf]
set_option maxRecDepth 100000 in
set_option maxHeartbeats 1000000 in
theorem since_ret (p m : Nat) (cut : Int) (es : Array MapEntry) (clock : Nat) (L : HMap) (hL : MapIs idK entK es clock L) (hne : p ≠ m) (hlen : L.length < 1048576) (now : Int) (w : World) (hη : HpOK (hist p m cut es clock) w) : Ret Try.prog 24 [ptr p, I now] w [] (fun v w' => ∃ (ν : Heap) (ys : List Ent), OwnR w.heap.size 29 36 v ν ys.length (ys.flatMap entL) ∧ HpOK ν w' ∧ ys.Perm ((L.map Prod.snd).filter (fun x => decide (now ≤ x.arr))) ∧ ys.Pairwise (fun x y => Go.Proofs.ltOf cmpArr y x = false)) := by
  refine enter (n := 8) (args := [ptr p, I now]) [] (hist p m cut es clock) Try.func24 rfl rfl rfl hη (by simp [hne]) ?_
  refine wc_seq ?_
  refine wc_plain [(0, .x true), (1, .x true)] (by kernel_rfl) ?_
  refine ws_box rfl rfl rfl rfl ?_
  intro b3 hb3
  refine ws_l rfl rfl rfl rfl (rd_assign rfl) ?_
  refine ws_nil ?_
  refine qe_then ?_
  refine wc_seq ?_
  refine wc_plain [(0, .x true), (1, .x true), (2, .x true), (3, .x true)] (by kernel_rfl) ?_
  refine ws_l rfl rfl rfl rfl (rd_move rfl) ?_
  refine ws_l rfl rfl rfl rfl (rd_mkfunc rfl rfl) ?_
  refine ws_call (S' := []) (Φ := fun w v w' => ∃ (u : Value) (ν : Heap) (ys : List Ent), v = u ∧ OwnR w.heap.size 29 36 u ν ys.length (ys.flatMap entL) ∧ HpOK ν w' ∧ ys.Perm ((L.map Prod.snd).filter (fun x => decide (now ≤ x.arr))) ∧ ys.Pairwise (fun x y => Go.Proofs.ltOf cmpArr y x = false)) rfl rfl rfl rfl rfl (En.go) (fun w hp hn ho => sorted_ret (κ := [(b3, .cells #[I now] 3 (0, 0))]) (isKeep_since (b := b3) (now := now)) isCmp_arr p m cut es clock L hL hlen w (hp.mono (by simp)) (by simp at hn ⊢; omega)) (fun _ h => by cases h) (fun _ _ h => by first | (cases h; done) | skip) ?_
  rintro vs w1 w2 - hon - - ⟨u, νs, yss, rfl, howns, hνs, hperms, hpws⟩
  refine ⟨νs, hνs, howns.nd, fun b hb => .inl (howns.far b hb), ?_⟩
  replace howns := howns.mono hon.size
  refine ws_l rfl rfl rfl rfl (rd_assign rfl) ?_
  refine ws_nil ?_
  refine qe_then ?_
  refine wc_keep [(4, _)] rfl ?_
  refine wc_ret ?_
  refine qe_body _ (.inl rfl) (res1 rfl (RV.tmp rfl)) ?_
  exact ret_end fun w hp hn ho => ⟨νs, yss, howns, hp.mono (fun _ h => List.mem_append_left _ h), hperms, hpws⟩
theorem take_lt {rows : List Ent} {j : Nat} {x y : Ent} (h : rows.Pairwise (fun x y => idLt x.id y.id)) (hx : rows[j]? = some x) (hy : y ∈ rows.take j) : idLt y.id x.id := by
  obtain ⟨i, hi⟩ := List.getElem?_of_mem hy
  rw [List.getElem?_take] at hi
  split at hi
  · have := (List.pairwise_iff_getElem.1 h) i j (List.getElem?_eq_some_iff.1 hi).1 (List.getElem?_eq_some_iff.1 hx).1 (by omega)
    rw [(List.getElem?_eq_some_iff.1 hi).2, (List.getElem?_eq_some_iff.1 hx).2] at this
    exact this
  · cases hi
set_option maxRecDepth 100000 in
set_option maxHeartbeats 1000000 in
theorem since_ref (v : Value) (ν : Heap) (rows : List Ent) (hown : OwnR 0 24 36 v ν rows.length (rows.flatMap entL)) (hlen : rows.length < 1048576) (hsrt : rows.Pairwise (fun x y => idLt x.id y.id)) (now : Int) (w : World) (hν : HpOK ν w) (hnd : (ν.map Prod.fst).Nodup) : Ret Try.prog 26 [v, I now] w [] (fun u w' => ∃ (ν5 : Heap) (out : List Ent), OwnR w.heap.size 24 36 u ν5 out.length (out.flatMap entL) ∧ HpOK ν5 w' ∧ out.Perm (rows.filter (fun x => decide (now ≤ x.arr))) ∧ out.Pairwise (fun x y => Go.Proofs.ltOf cmpArr y x = false)) := by
  refine enter (n := 60) (args := [v, I now]) [] ν Try.func26 rfl rfl rfl hν hnd ?_
  refine wc_seq ?_
  refine wc_plain [(0, .x true)] (by kernel_rfl) ?_
  refine ws_l rfl rfl rfl rfl (rd_assign rfl) ?_
  refine ws_nil ?_
  refine qe_then ?_
  refine wc_seq ?_
  refine wc_plain [(0, .x true)] (by kernel_rfl) ?_
  refine ws_l rfl rfl rfl rfl (rd_assign rfl) ?_
  refine ws_nil ?_
  refine qe_then ?_
  refine wc_seq ?_
  refine wc_seq ?_
  refine wc_plain [(0, .x true)] (by kernel_rfl) ?_
  refine ws_l rfl rfl rfl rfl (rd_assign rfl) ?_
  refine ws_nil ?_
  refine qe_then ?_
  refine wc_block ?_
  refine wc_loop (fun mz ac w1 => ∃ (j : Nat) (out : List Ent) (v5 : Value) (ν5 : Heap), mz = rows.length - j ∧ (j ≤ rows.length) ∧ (out.Perm ((rows.take j).filter (fun x => decide (now ≤ x.arr)))) ∧ (out.Pairwise (fun x y => Go.Proofs.ltOf cmpArr y x = false)) ∧ (OwnR w.heap.size 24 36 v5 ν5 out.length (out.flatMap entL)) ∧ St 60 w [] [(0, v), (1, I now), (5, v5), (6, I j)] (ν5 ++ ν) ac w1) _ (fun ac w1 hs => ⟨0, [], .slice none 0 0, [], rfl, (by omega), (by simp), (List.Pairwise.nil), (OwnR.nil _ _ _), st_sub hs _ rfl⟩) ?_
  rintro _ ac1 wl1 ⟨j, out, v5, ν5, rfl, hj, hpm, hpw, hown5, hs1⟩
  refine wc_at hs1 ?_
  have hol : out.length ≤ j := by rw [hpm.length_eq]; exact Nat.le_trans (List.length_filter_le _ _) (by simp; omega)
  refine wc_seq ?_
  refine wc_seq ?_
  refine wc_plain [(0, .x true), (1, .x true), (2, .x true), (3, .x true)] (by kernel_rfl) ?_
  refine ws_l rfl rfl rfl rfl (rd_move rfl) ?_
  refine ws_l rfl rfl rfl rfl (rd_move rfl) ?_
  refine ws_l rfl rfl rfl rfl (rd_lenO hown rfl Try.underlying36) ?_
  refine ws_lcmp rfl rfl rfl (rfl) (rfl) (rfl) ?_ ?_
  · intro h12
    refine ws_nil ?_
    refine qe_then ?_
    refine wc_true rfl ?_
    refine wc_skip ?_
    refine qe_then ?_
    refine wc_seq ?_
    refine wc_block ?_
    refine wc_seq ?_
    refine wc_seq ?_
    refine wc_plain [(0, .x true), (1, .x true), (2, .x true), (3, .x true), (4, .x true), (5, .x true), (6, .x true)] (by kernel_rfl) ?_
    refine ws_l rfl rfl rfl rfl (rd_move rfl) ?_
    refine ws_l rfl rfl rfl rfl (rd_move rfl) ?_
    obtain ⟨gr, capr, curr, rfl, rfl, hgr, hcapr, hcurr⟩ := OwnR.opened hown (by omega)
    obtain ⟨x, hx⟩ := at_ex (l := rows) (j := j) (by omega)
    have atx := at_row hcurr hx
    refine ws_l rfl rfl rfl rfl (rd_ix rfl rfl Try.underlying36 Try.sizeOf24 (by omega)) ?_
    refine ws_l rfl rfl rfl rfl (rd_fieldAddr rfl) ?_
    refine ws_l rfl rfl rfl rfl (rd_load rfl) ?_
    refine ws_l rfl rfl rfl rfl (rd_move rfl) ?_
    refine ws_lcmp rfl rfl rfl (rfl) (rfl) (rfl) ?_ ?_
    · intro h21
      have hfx : decide (now ≤ x.arr) = false := by simp; omega
      refine ws_nil ?_
      refine qe_then ?_
      refine wc_true rfl ?_
      refine wc_exit ?_
      refine qe_then_exit ?_
      refine qe_block_exit ?_
      refine qe_then ?_
      refine wc_plain [(0, .x true), (1, .x true), (2, .x true)] (by kernel_rfl) ?_
      refine ws_l rfl rfl rfl rfl (rd_move rfl) ?_
      refine ws_l rfl rfl rfl rfl (rd_arith (((j + 1 : Nat) : Int)) rfl rfl rfl (by rw [wrap_i64 _ (by omega) (by omega)]; omega)) ?_
      refine ws_l rfl rfl rfl rfl (rd_assign rfl) ?_
      refine ws_nil ?_
      exact qe_loop fun ac2 w2 hs2 => ⟨_, by omega, j + 1, out, v5, ν5, rfl, (by omega), (by rw [take_at hx, List.filter_append]; simpa [hfx] using hpm), (hpw), (hown5), st_sub hs2 _ rfl⟩
    · intro h21
      have hfx : decide (now ≤ x.arr) = true := by simp; omega
      refine ws_nil ?_
      refine qe_then ?_
      refine wc_false rfl ?_
      refine wc_skip ?_
      refine qe_then ?_
      refine wc_seq ?_
      refine wc_plain [(0, .x true), (1, .x true), (2, .x true)] (by kernel_rfl) ?_
      refine ws_l rfl rfl rfl rfl (rd_move rfl) ?_
      refine ws_l rfl rfl rfl rfl (rd_lenO hown5 rfl Try.underlying36) ?_
      refine ws_l rfl rfl rfl rfl (rd_assign rfl) ?_
      refine ws_nil ?_
      refine qe_then ?_
      refine wc_seq ?_
      refine wc_block ?_
      refine wc_loop (fun mz ac w1 => ∃ (a : Nat), mz = a + 1 ∧ (a ≤ out.length) ∧ (∀ i y, a ≤ i → out[i]? = some y → x.arr < y.arr) ∧ St 60 w [] [(0, .slice (some ⟨gr, 0, none⟩) rows.length capr), (1, I now), (5, v5), (6, I j), (7, I a)] (ν5 ++ ([(gr, Obj.cells curr 24 (0, 0))] : Heap)) ac w1) _ (fun ac w1 hs => ⟨out.length, rfl, (Nat.le_refl _), (fun i y hi hy => by rw [List.getElem?_eq_none hi] at hy; cases hy), st_sub hs _ rfl⟩) ?_
      rintro _ ac2 wl2 ⟨a, rfl, ha, hgt, hs2⟩
      refine wc_at hs2 ?_
      refine wc_seq ?_
      refine wc_seq ?_
      refine wc_drawn mixedT _ (fun _ h => h) [(0, .r), (1, .r), (2, .r), (3, .r), (4, .r), (5, .r), (6, .r), (7, .r), (8, .r), (9, .r), (10, .r), (11, .r), (12, .r), (13, .r), (14, .x true), (15, .x true)] (by kernel_rfl) ?_
      refine ws_r rfl rfl rfl rfl (rd_move rfl) ?_
      refine ws_rcmp rfl rfl rfl (rfl) (rfl) (rfl) ?_ ?_
      · intro h25
        refine ws_r rfl rfl rfl rfl (rd_move rfl) ?_
        refine ws_r rfl rfl rfl rfl (rd_move rfl) ?_
        refine ws_r rfl rfl rfl rfl (rd_move rfl) ?_
        refine ws_r rfl rfl rfl rfl (rd_arith (((a - 1 : Nat) : Nat) : Int) rfl rfl rfl (by rw [wrap_i64 _ (by omega) (by omega)]; omega)) ?_
        obtain ⟨go, capo, curo, rfl, rfl, hgo, hcapo, hcuro⟩ := OwnR.opened hown5 (by omega)
        obtain ⟨z, hz⟩ := at_ex (l := out) (j := a - 1) (by omega)
        have atz := at_row hcuro hz
        refine ws_r rfl rfl rfl rfl (rd_ix (j := a - 1) rfl rfl Try.underlying36 Try.sizeOf24 (by omega)) ?_
        refine ws_r rfl rfl rfl rfl (rd_fieldAddr rfl) ?_
        refine ws_r rfl rfl rfl rfl (rd_load rfl) ?_
        refine ws_r rfl rfl rfl rfl (rd_move rfl) ?_
        refine ws_r rfl rfl rfl rfl (rd_move rfl) ?_
        refine ws_r rfl rfl rfl rfl (rd_ix rfl rfl Try.underlying36 Try.sizeOf24 (by omega)) ?_
        refine ws_r rfl rfl rfl rfl (rd_fieldAddr rfl) ?_
        refine ws_r rfl rfl rfl rfl (rd_load rfl) ?_
        refine ws_late rfl ?_
        refine ws_lcmp rfl rfl rfl (rfl) (rfl) (rfl) ?_ ?_
        · intro h38
          refine ws_l rfl rfl rfl rfl (rd_pick_t rfl rfl) ?_
          refine ws_nil ?_
          refine qe_then ?_
          refine wc_true rfl ?_
          refine wc_skip ?_
          refine qe_then ?_
          refine wc_block ?_
          refine wc_plain [(0, .x true), (1, .x true), (2, .x true)] (by kernel_rfl) ?_
          refine ws_l rfl rfl rfl rfl (rd_move rfl) ?_
          refine ws_l rfl rfl rfl rfl (rd_arith (((a - 1 : Nat) : Nat) : Int) rfl rfl rfl (by rw [wrap_i64 _ (by omega) (by omega)]; omega)) ?_
          refine ws_l rfl rfl rfl rfl (rd_assign rfl) ?_
          refine ws_nil ?_
          refine qe_block ?_
          exact qe_loop fun ac2 w2 hs2 => ⟨_, by omega, a - 1, rfl, (by omega), (fun i y hi hy => by rcases Nat.lt_or_ge i a with h | h; have : i = a - 1 := (by omega); subst this; rw [hz] at hy; cases hy; omega; exact hgt i y h hy), st_sub hs2 _ rfl⟩
        · intro h38
          refine ws_l rfl rfl rfl rfl (rd_pick_t rfl rfl) ?_
          refine ws_nil ?_
          refine qe_then ?_
          refine wc_false rfl ?_
          refine wc_exit ?_
          refine qe_then_exit ?_
          refine qe_then_exit ?_
          refine qe_block_exit ?_
          refine qe_then ?_
          refine wc_seq ?_
          refine wc_plain [(0, .x true), (1, .x true), (2, .x true), (3, .x true), (4, .x true), (5, .x true)] (by kernel_rfl) ?_
          refine ws_buildSlice rfl rfl rfl rfl ?_
          intro b42 hb42
          have hl0 := OwnR.lit0 (E := 24) (k := 36) hb42
          refine ws_l rfl rfl rfl rfl (rd_move rfl) ?_
          refine ws_l rfl rfl rfl rfl (rd_move rfl) ?_
          obtain ⟨u40, hu40, hs40⟩ := OwnR.upto hown5 .i64 a ha Try.underlying36 Try.sizeOf24
          refine ws_l rfl rfl rfl rfl (rd_slice_h Try.underlying36 rfl rfl hu40) ?_
          refine ws_appendS rfl rfl rfl rfl rfl hl0 (hs40.mono (fun _ h => by simp at h ⊢; simp [h])) (fun u hu => by have := List.mem_of_mem_take hu; obtain ⟨y, _, hy⟩ := List.mem_flatMap.1 this; exact entL_one y u hy) (by simp only [maxLen]; omega) (by omega) (fun _ _ _ h => by first | (cases h; done) | skip) ?_
          intro va νa howna
          have hra : OwnR w.heap.size 24 36 va νa (out.take a).length ((out.take a).flatMap entL) := by simpa [flat_take entL_len, Nat.min_eq_left ha] using howna
          refine ws_l rfl rfl rfl rfl (rd_assign rfl) ?_
          refine ws_nil ?_
          refine qe_then ?_
          refine wc_seq ?_
          refine wc_plain [(0, .x true), (1, .x true), (2, .x true), (3, .x true), (4, .x true), (5, .x true), (6, .x true), (7, .x true)] (by kernel_rfl) ?_
          refine ws_l rfl rfl rfl rfl (rd_move rfl) ?_
          refine ws_l rfl rfl rfl rfl (rd_move rfl) ?_
          refine ws_l rfl rfl rfl rfl (rd_move rfl) ?_
          refine ws_l rfl rfl rfl rfl (rd_ix rfl rfl Try.underlying36 Try.sizeOf24 (by omega)) ?_
          refine ws_l rfl rfl rfl rfl (rd_load rfl) ?_
          refine ws_buildSlice rfl rfl rfl rfl ?_
          intro b52 hb52
          have hjl : (out.take a).length = a := by simp; omega
          refine ws_append rfl rfl rfl rfl rfl hra (by simp [entC_size]) (entC_one _) (by simp only [maxLen]; omega) (by omega) (fun _ _ _ h => by first | (cases h; done) | skip) ?_
          intro vb νb hownb
          have hrb : OwnR w.heap.size 24 36 vb νb (out.take a ++ [x]).length ((out.take a ++ [x]).flatMap entL) := Row.app hownb rfl (by simp)
          refine ws_l rfl rfl rfl rfl (rd_assign rfl) ?_
          refine ws_nil ?_
          refine qe_then ?_
          refine wc_plain [(0, .x true), (1, .x true), (2, .x true), (3, .x true), (4, .x true), (5, .x true)] (by kernel_rfl) ?_
          refine ws_l rfl rfl rfl rfl (rd_move rfl) ?_
          refine ws_l rfl rfl rfl rfl (rd_move rfl) ?_
          refine ws_l rfl rfl rfl rfl (rd_move rfl) ?_
          obtain ⟨u49, hu49, hs49⟩ := OwnR.behind hown5 .i64 a ha Try.underlying36 Try.sizeOf24
          refine ws_l rfl rfl rfl rfl (rd_slice_l Try.underlying36 rfl rfl hu49) ?_
          refine ws_appendS rfl rfl rfl rfl rfl hrb (hs49.mono (fun _ h => by simp at h ⊢; simp [h])) (fun u hu => by have := List.mem_of_mem_drop hu; obtain ⟨y, _, hy⟩ := List.mem_flatMap.1 this; exact entL_one y u hy) (by simp only [maxLen, List.length_append, hjl, List.length_singleton]; omega) (by simp only [List.length_append, hjl, List.length_singleton]; omega) (fun _ _ _ h => by first | (cases h; done) | skip) ?_
          intro vc νc hownc
          have hrc := Row.app (ys := out.drop a) hownc (by simp) (flat_drop entL_len out a)
          refine ws_l rfl rfl rfl rfl (rd_assign rfl) ?_
          refine ws_nil ?_
          refine qe_block ?_
          refine qe_then ?_
          refine wc_plain [(0, .x true), (1, .x true), (2, .x true)] (by kernel_rfl) ?_
          refine ws_l rfl rfl rfl rfl (rd_move rfl) ?_
          refine ws_l rfl rfl rfl rfl (rd_arith (((j + 1 : Nat) : Int)) rfl rfl rfl (by rw [wrap_i64 _ (by omega) (by omega)]; omega)) ?_
          refine ws_l rfl rfl rfl rfl (rd_assign rfl) ?_
          refine ws_nil ?_
          exact qe_loop fun ac2 w2 hs2 => ⟨_, by omega, j + 1, out.take a ++ [x] ++ out.drop a, vc, νc, rfl, (by omega), (by rw [take_at hx, List.filter_append]; refine (insA_perm x a).trans ?_; have e1 : [x].filter (fun x => decide (now ≤ x.arr)) = [x] := (by simp [hfx]); rw [e1]; exact hpm.append_right _), (insA_srt hpw (fun y hy => by obtain ⟨hy1, _⟩ := List.mem_filter.1 (hpm.mem_iff.1 hy); exact take_lt hsrt hx hy1) hgt (.inr ⟨z, hz, by omega⟩)), (hrc), st_sub hs2 _ rfl⟩
      · intro h25
        refine ws_r rfl rfl rfl rfl (rd_move rfl) ?_
        refine ws_rskip rfl rfl rfl rfl ?_
        refine ws_rskip rfl rfl rfl rfl ?_
        refine ws_rskip rfl rfl rfl rfl ?_
        refine ws_rskip rfl rfl rfl rfl ?_
        refine ws_rskip rfl rfl rfl rfl ?_
        refine ws_rskip rfl rfl rfl rfl ?_
        refine ws_rskip rfl rfl rfl rfl ?_
        refine ws_rskip rfl rfl rfl rfl ?_
        refine ws_rskip rfl rfl rfl rfl ?_
        refine ws_rskip rfl rfl rfl rfl ?_
        refine ws_rskip rfl rfl rfl rfl ?_
        refine ws_late rfl ?_
        refine ws_xskip rfl rfl rfl rfl ?_
        refine ws_l rfl rfl rfl rfl (rd_pick_f rfl rfl) ?_
        refine ws_nil ?_
        refine qe_then ?_
        refine wc_false rfl ?_
        refine wc_exit ?_
        refine qe_then_exit ?_
        refine qe_then_exit ?_
        refine qe_block_exit ?_
        refine qe_then ?_
        refine wc_seq ?_
        refine wc_plain [(0, .x true), (1, .x true), (2, .x true), (3, .x true), (4, .x true), (5, .x true)] (by kernel_rfl) ?_
        refine ws_buildSlice rfl rfl rfl rfl ?_
        intro b42 hb42
        have hl0 := OwnR.lit0 (E := 24) (k := 36) hb42
        refine ws_l rfl rfl rfl rfl (rd_move rfl) ?_
        refine ws_l rfl rfl rfl rfl (rd_move rfl) ?_
        obtain ⟨u40, hu40, hs40⟩ := OwnR.upto hown5 .i64 a ha Try.underlying36 Try.sizeOf24
        refine ws_l rfl rfl rfl rfl (rd_slice_h Try.underlying36 rfl rfl hu40) ?_
        refine ws_appendS rfl rfl rfl rfl rfl hl0 (hs40.mono (fun _ h => by simp at h ⊢; simp [h])) (fun u hu => by have := List.mem_of_mem_take hu; obtain ⟨y, _, hy⟩ := List.mem_flatMap.1 this; exact entL_one y u hy) (by simp only [maxLen]; omega) (by omega) (fun _ _ _ h => by first | (cases h; done) | skip) ?_
        intro va νa howna
        have hra : OwnR w.heap.size 24 36 va νa (out.take a).length ((out.take a).flatMap entL) := by simpa [flat_take entL_len, Nat.min_eq_left ha] using howna
        refine ws_l rfl rfl rfl rfl (rd_assign rfl) ?_
        refine ws_nil ?_
        refine qe_then ?_
        refine wc_seq ?_
        refine wc_plain [(0, .x true), (1, .x true), (2, .x true), (3, .x true), (4, .x true), (5, .x true), (6, .x true), (7, .x true)] (by kernel_rfl) ?_
        refine ws_l rfl rfl rfl rfl (rd_move rfl) ?_
        refine ws_l rfl rfl rfl rfl (rd_move rfl) ?_
        refine ws_l rfl rfl rfl rfl (rd_move rfl) ?_
        refine ws_l rfl rfl rfl rfl (rd_ix rfl rfl Try.underlying36 Try.sizeOf24 (by omega)) ?_
        refine ws_l rfl rfl rfl rfl (rd_load rfl) ?_
        refine ws_buildSlice rfl rfl rfl rfl ?_
        intro b52 hb52
        have hjl : (out.take a).length = a := by simp; omega
        refine ws_append rfl rfl rfl rfl rfl hra (by simp [entC_size]) (entC_one _) (by simp only [maxLen]; omega) (by omega) (fun _ _ _ h => by first | (cases h; done) | skip) ?_
        intro vb νb hownb
        have hrb : OwnR w.heap.size 24 36 vb νb (out.take a ++ [x]).length ((out.take a ++ [x]).flatMap entL) := Row.app hownb rfl (by simp)
        refine ws_l rfl rfl rfl rfl (rd_assign rfl) ?_
        refine ws_nil ?_
        refine qe_then ?_
        refine wc_plain [(0, .x true), (1, .x true), (2, .x true), (3, .x true), (4, .x true), (5, .x true)] (by kernel_rfl) ?_
        refine ws_l rfl rfl rfl rfl (rd_move rfl) ?_
        refine ws_l rfl rfl rfl rfl (rd_move rfl) ?_
        refine ws_l rfl rfl rfl rfl (rd_move rfl) ?_
        obtain ⟨u49, hu49, hs49⟩ := OwnR.behind hown5 .i64 a ha Try.underlying36 Try.sizeOf24
        refine ws_l rfl rfl rfl rfl (rd_slice_l Try.underlying36 rfl rfl hu49) ?_
        refine ws_appendS rfl rfl rfl rfl rfl hrb (hs49.mono (fun _ h => by simp at h ⊢; simp [h])) (fun u hu => by have := List.mem_of_mem_drop hu; obtain ⟨y, _, hy⟩ := List.mem_flatMap.1 this; exact entL_one y u hy) (by simp only [maxLen, List.length_append, hjl, List.length_singleton]; omega) (by simp only [List.length_append, hjl, List.length_singleton]; omega) (fun _ _ _ h => by first | (cases h; done) | skip) ?_
        intro vc νc hownc
        have hrc := Row.app (ys := out.drop a) hownc (by simp) (flat_drop entL_len out a)
        refine ws_l rfl rfl rfl rfl (rd_assign rfl) ?_
        refine ws_nil ?_
        refine qe_block ?_
        refine qe_then ?_
        refine wc_plain [(0, .x true), (1, .x true), (2, .x true)] (by kernel_rfl) ?_
        refine ws_l rfl rfl rfl rfl (rd_move rfl) ?_
        refine ws_l rfl rfl rfl rfl (rd_arith (((j + 1 : Nat) : Int)) rfl rfl rfl (by rw [wrap_i64 _ (by omega) (by omega)]; omega)) ?_
        refine ws_l rfl rfl rfl rfl (rd_assign rfl) ?_
        refine ws_nil ?_
        exact qe_loop fun ac2 w2 hs2 => ⟨_, by omega, j + 1, out.take a ++ [x] ++ out.drop a, vc, νc, rfl, (by omega), (by rw [take_at hx, List.filter_append]; refine (insA_perm x a).trans ?_; have e1 : [x].filter (fun x => decide (now ≤ x.arr)) = [x] := (by simp [hfx]); rw [e1]; exact hpm.append_right _), (insA_srt hpw (fun y hy => by obtain ⟨hy1, _⟩ := List.mem_filter.1 (hpm.mem_iff.1 hy); exact take_lt hsrt hx hy1) hgt (.inl (by omega))), (hrc), st_sub hs2 _ rfl⟩
  · intro h12
    refine ws_nil ?_
    refine qe_then ?_
    refine wc_false rfl ?_
    refine wc_exit ?_
    refine qe_then_exit ?_
    refine qe_then_exit ?_
    refine qe_block_exit ?_
    refine qe_then ?_
    refine wc_keep [(5, _)] rfl ?_
    refine wc_seq ?_
    refine wc_plain [(0, .x true), (1, .x true)] (by kernel_rfl) ?_
    refine ws_l rfl rfl rfl rfl (rd_move rfl) ?_
    refine ws_l rfl rfl rfl rfl (rd_assign rfl) ?_
    refine ws_nil ?_
    refine qe_then ?_
    refine wc_ret ?_
    refine qe_body _ (.inl rfl) (res1 rfl (RV.tmp rfl)) ?_
    exact ret_end fun w hp hn ho => ⟨ν5, out, hown5, hp.mono (fun _ h => List.mem_append_left _ h), by rw [List.take_of_length_le (by omega)] at hpm; exact hpm, hpw⟩
set_option maxRecDepth 100000 in
set_option maxHeartbeats 1000000 in
theorem hsince_ret (vl : Value) (νl : Heap) (ops : List POp) (hsrc : Src νl vl 37 ops.length (ops.flatMap opL)) (a1 : Int) (w : World) (hνl : HpOK νl w) (hndl : (νl.map Prod.fst).Nodup) : Ret Try.prog 7 [vl, I a1] w [] (fun v _ => v = .bool true) := by
  refine enter (n := 45) (args := [vl, I a1]) [] νl Try.func7 rfl rfl rfl hνl hndl ?_
  refine wc_seq ?_
  refine wc_plain [(0, .x true)] (by kernel_rfl) ?_
  refine ws_l rfl rfl rfl rfl (rd_assign rfl) ?_
  refine ws_nil ?_
  refine qe_then ?_
  refine wc_seq ?_
  refine wc_seq ?_
  refine wc_plain [(0, .x true), (1, .x true)] (by kernel_rfl) ?_
  refine ws_callp rfl rfl rfl rfl rfl (En.go) (fun w hp hn ho => known_ret w) ?_
  refine ws_l rfl rfl rfl rfl (rd_not rfl) ?_
  refine ws_nil ?_
  refine qe_then ?_
  refine wc_false rfl ?_
  refine wc_skip ?_
  refine qe_then ?_
  refine wc_seq ?_
  refine wc_plain [(0, .x true), (1, .x true), (2, .x true), (3, .x true), (4, .x true), (5, .x true), (6, .x true), (7, .x true), (8, .x true), (9, .x true), (10, .x true)] (by kernel_rfl) ?_
  refine ws_l rfl rfl rfl rfl (rd_move rfl) ?_
  refine ws_call rfl rfl rfl rfl rfl (En.go) (fun w hp hn ho => play_ret vl νl ops hsrc w (hp.mono (by intro q hq; simp [hq])) hndl) (fun _ h => by cases h) (fun hh q h => by first | (cases h; done) | exact hh q h) ?_
  rintro v16 wa wb hpo hon hon2 hp1 ⟨p, m, cut, es, clock, L, rows, vr, νr, rfl, hp0, hm0, hh, hhn, hL, hrel, hrl, hcut, hown, hchk⟩
  refine ⟨histC p m cut es clock νr, hh, hhn, fun b hb => .inl (by simp at hb; rcases hb with rfl | rfl | hb; exact hp0; exact hm0; exact hown.far b (by simpa using hb)), ?_⟩
  replace hp0 := Nat.le_trans hon.size hp0
  replace hm0 := Nat.le_trans hon.size hm0
  replace hown := hown.mono hon.size
  have hne : p ≠ m := by simp at hhn; omega
  simp only [histC, List.cons_append]
  refine ws_l rfl rfl rfl rfl (rd_move rfl) ?_
  refine ws_l rfl rfl rfl rfl (rd_extract rfl) ?_
  refine ws_l rfl rfl rfl rfl (rd_extract rfl) ?_
  refine ws_l rfl rfl rfl rfl (rd_extract rfl) ?_
  refine ws_l rfl rfl rfl rfl (rd_extract rfl) ?_
  refine ws_l rfl rfl rfl rfl (rd_assign rfl) ?_
  refine ws_l rfl rfl rfl rfl (rd_assign rfl) ?_
  refine ws_l rfl rfl rfl rfl (rd_assign rfl) ?_
  refine ws_l rfl rfl rfl rfl (rd_assign rfl) ?_
  refine ws_nil ?_
  refine qe_then ?_
  refine wc_keep [(1, _), (4, _), (5, _), (6, _), (8, _)] rfl ?_
  refine wc_seq ?_
  refine wc_seq ?_
  refine wc_plain [(0, .x true), (1, .x true)] (by kernel_rfl) ?_
  refine ws_l rfl rfl rfl rfl (rd_move rfl) ?_
  refine ws_l rfl rfl rfl rfl (rd_not rfl) ?_
  refine ws_nil ?_
  refine qe_then ?_
  refine wc_false rfl ?_
  refine wc_skip ?_
  refine qe_then ?_
  refine wc_seq ?_
  refine wc_plain [(0, .x true), (1, .x true), (2, .x true), (3, .x true)] (by kernel_rfl) ?_
  refine ws_l rfl rfl rfl rfl (rd_move rfl) ?_
  refine ws_l rfl rfl rfl rfl (rd_move rfl) ?_
  refine ws_call rfl rfl rfl rfl rfl (En.go) (fun w hp hn ho => since_ret p m cut es clock L hL hne (by rw [hrel.len]; omega) a1 w (hp.mono (by intro q hq; simp at hq ⊢; rcases hq with h | h <;> simp [h]))) (fun _ h => by cases h) (fun hh q h => by first | (cases h; done) | exact hh q h) ?_
  rintro v25 wa wb hpo hon hon2 hp1 ⟨νs, ys, howns, hνs, hyp, hyw⟩
  refine ⟨νs, hνs, howns.nd, fun b hb => .inl (howns.far b hb), ?_⟩
  replace howns := howns.mono hon.size
  have hyl : ys.length ≤ 40 := by rw [hyp.length_eq]; exact Nat.le_trans (List.length_filter_le _ _) (by rw [List.length_map, hrel.len]; exact hrl)
  refine ws_l rfl rfl rfl rfl (rd_assign rfl) ?_
  refine ws_nil ?_
  refine qe_then ?_
  refine wc_keep [(1, _), (4, _), (6, _), (9, _)] rfl ?_
  refine wc_seq ?_
  refine wc_plain [(0, .x true)] (by kernel_rfl) ?_
  refine ws_l rfl rfl rfl rfl (rd_assign rfl) ?_
  refine ws_nil ?_
  refine qe_then ?_
  refine wc_seq ?_
  refine wc_seq ?_
  refine wc_plain [(0, .x true)] (by kernel_rfl) ?_
  refine ws_l rfl rfl rfl rfl (rd_assign rfl) ?_
  refine ws_nil ?_
  refine qe_then ?_
  refine wc_block ?_
  refine wc_loop (fun mz ac w1 => ∃ (j : Nat) (v10 : Value) (ν10 : Heap), mz = ys.length - j ∧ (j ≤ ys.length) ∧ (OwnR w.heap.size 24 36 v10 ν10 (ys.take j).length ((ys.take j).flatMap entL)) ∧ St 45 w [] [(1, I a1), (6, vr), (9, v25), (10, v10), (11, I j)] (ν10 ++ (νs ++ ((p, .cells #[.map (some m), I cut] 86 (0, 0)) :: (m, .map es clock) :: (νr ++ νl)))) ac w1) _ (fun ac w1 hs => ⟨0, .slice none 0 0, [], rfl, (by omega), (by simpa using OwnR.nil _ _ _), st_sub hs _ rfl⟩) ?_
  rintro _ ac1 wl1 ⟨j, v10, ν10, rfl, hj, hown10, hs1⟩
  refine wc_at hs1 ?_
  have htl : (ys.take j).length ≤ j := by simp; omega
  refine wc_seq ?_
  refine wc_seq ?_
  refine wc_plain [(0, .x true), (1, .x true), (2, .x true), (3, .x true)] (by kernel_rfl) ?_
  refine ws_l rfl rfl rfl rfl (rd_move rfl) ?_
  refine ws_l rfl rfl rfl rfl (rd_move rfl) ?_
  refine ws_l rfl rfl rfl rfl (rd_lenO howns rfl Try.underlying54) ?_
  refine ws_lcmp rfl rfl rfl (rfl) (rfl) (rfl) ?_ ?_
  · intro h29
    refine ws_nil ?_
    refine qe_then ?_
    refine wc_true rfl ?_
    refine wc_skip ?_
    refine qe_then ?_
    refine wc_seq ?_
    refine wc_block ?_
    refine wc_plain [(0, .x true), (1, .x true), (2, .x true), (3, .x true), (4, .x true), (5, .x true), (6, .x true), (7, .x true), (8, .x true)] (by kernel_rfl) ?_
    refine ws_l rfl rfl rfl rfl (rd_move rfl) ?_
    refine ws_l rfl rfl rfl rfl (rd_move rfl) ?_
    refine ws_l rfl rfl rfl rfl (rd_move rfl) ?_
    obtain ⟨gs, caps, curs, rfl, rfl, hgs, hcaps, hcurs⟩ := OwnR.opened howns (by omega)
    obtain ⟨x, hx⟩ := at_ex (l := ys) (j := j) (by omega)
    have atx := at_row hcurs hx
    refine ws_l rfl rfl rfl rfl (rd_ix rfl rfl Try.underlying54 Try.sizeOf29 (by omega)) ?_
    refine ws_l rfl rfl rfl rfl (rd_load rfl) ?_
    refine ws_callp rfl rfl rfl rfl rfl (En.go) (fun w hp hn ho => of_ret _ w) ?_
    refine ws_buildSlice rfl rfl rfl rfl ?_
    intro b38 hb38
    refine ws_append rfl rfl rfl rfl rfl hown10 (by simp [entC_size]) (entC_one _) (by simp only [maxLen]; omega) (by omega) (fun _ _ _ h => by first | (cases h; done) | skip) ?_
    intro v10' ν10' hown10'
    refine ws_l rfl rfl rfl rfl (rd_assign rfl) ?_
    refine ws_nil ?_
    refine qe_block ?_
    refine qe_then ?_
    refine wc_plain [(0, .x true), (1, .x true), (2, .x true)] (by kernel_rfl) ?_
    refine ws_l rfl rfl rfl rfl (rd_move rfl) ?_
    refine ws_l rfl rfl rfl rfl (rd_arith (((j + 1 : Nat) : Int)) rfl rfl rfl (by rw [wrap_i64 _ (by omega) (by omega)]; omega)) ?_
    refine ws_l rfl rfl rfl rfl (rd_assign rfl) ?_
    refine ws_nil ?_
    exact qe_loop fun ac2 w2 hs2 => ⟨_, by omega, j + 1, v10', ν10', rfl, (by omega), (by rw [take_at hx]; exact Row.app hown10' rfl (by simp)), st_sub hs2 _ rfl⟩
  · intro h29
    refine ws_nil ?_
    refine qe_then ?_
    refine wc_false rfl ?_
    refine wc_exit ?_
    refine qe_then_exit ?_
    refine qe_then_exit ?_
    refine qe_block_exit ?_
    refine qe_then ?_
    refine wc_keep [(1, _), (6, _), (10, _)] rfl ?_
    refine wc_seq ?_
    refine wc_plain [(0, .x true), (1, .x true), (2, .x true), (3, .x true), (4, .x true), (5, .x true)] (by kernel_rfl) ?_
    refine ws_l rfl rfl rfl rfl (rd_move rfl) ?_
    refine ws_l rfl rfl rfl rfl (rd_move rfl) ?_
    refine ws_l rfl rfl rfl rfl (rd_move rfl) ?_
    refine ws_call rfl rfl rfl rfl rfl (En.go) (fun w hp hn ho => since_ref vr νr rows (hown.mono (Nat.zero_le _)) (by omega) hrel.srt a1 w (hp.mono (by intro q hq; simp [hq])) hown.nd) (fun _ h => by cases h) (fun hh q h => by first | (cases h; done) | exact hh q h) ?_
    rintro v43 wa wb hpo hon hon2 hp1 ⟨νz, zs, hownz, hνz, hzp, hzw⟩
    refine ⟨νz, hνz, hownz.nd, fun b hb => .inl (hownz.far b hb), ?_⟩
    replace hownz := hownz.mono hon.size
    have hyz := hrel.since_unique _ hyp hyw hzp hzw
    rw [List.take_of_length_le (by omega)] at hown10
    refine ws_callp (v := .bool true) rfl rfl rfl rfl rfl (En.go) (fun w hp hn ho => (same_ret _ ν10 ys (hown10.mono (Nat.zero_le _)) _ νz zs (hownz.mono (Nat.zero_le _)) (by omega) w (hp.mono (by intro q hq; simp at hq ⊢; rcases hq with h | h <;> simp [h])) (SubH.nd hn)).mono (fun _ h => h) (fun v w1 _ h => by rw [h, decide_eq_true hyz])) ?_
    refine ws_l rfl rfl rfl rfl (rd_assign rfl) ?_
    refine ws_nil ?_
    refine qe_then ?_
    refine wc_keep [(4, _)] rfl ?_
    refine wc_ret ?_
    refine qe_body _ (.inl rfl) (res1 rfl (RV.tmp rfl)) ?_
    exact ret_end fun w hp hn ho => rfl

end Go.Proofs.Ytegjmmjjchpeoaa
