/- Walks: Chain and Judge of the reference. No conditions. -/
import Derived.Test.YtheioljidangkaaGreatRch
import Derived.Test.YtheioljidangkaaGreatW6
namespace Go.Proofs.YtheioljidangkaaGreat
open Go Go.RowKit Go.Sx
set_option linter.unusedSimpArgs false
set_option linter.unusedVariables false

set_option maxRecDepth 100000 in
set_option maxHeartbeats 8000000 in
theorem chain_ref (v : Value) (φ : Heap) (l : List RK) (hsrc : Src φ v 84 l.length (l.flatMap rkL)) (hlen : l.length < 1048576) (hok : ∀ r ∈ l, okR r) (a : Au) (w : World) (hφ : HpOK φ w) (hnd : (φ.map Prod.fst).Nodup) : Ret Tryz.prog 9 [v, idK a] w [] (fun u w' => ∃ (ν' : Heap), OwnR w.heap.size 79 51 u ν' (chainF l a).length ((chainF l a).flatMap kkL) ∧ HpOK ν' w') := by
  refine enter (n := 88) (args := [v, idK a]) [] φ Tryz.func9 rfl rfl rfl hφ hnd ?_
  refine wc_seq ?_
  refine wc_plain [(0, .x true), (1, .x true)] (by kernel_rfl) ?_
  refine ws_box rfl rfl rfl rfl ?_
  intro b3 hb3
  refine ws_l rfl rfl rfl rfl (rd_assign rfl) ?_
  refine ws_nil ?_
  refine qe_then ?_
  refine wc_seq ?_
  refine wc_plain [(0, .x true)] (by kernel_rfl) ?_
  refine ws_alloc rfl rfl rfl ?_
  intro b5 hb5
  refine ws_nil ?_
  refine qe_then ?_
  refine wc_seq ?_
  refine wc_plain [(0, .x true)] (by kernel_rfl) ?_
  refine ws_l rfl rfl rfl rfl (rd_assign rfl) ?_
  refine ws_nil ?_
  refine qe_then ?_
  refine wc_seq ?_
  refine wc_seq ?_
  refine wc_plain [(0, .x true)] (by kernel_rfl) ?_
  refine ws_l rfl rfl rfl rfl (rd_assign rfl) ?_
  refine ws_nil ?_
  refine qe_then ?_
  refine wc_block ?_
  refine wc_loop (fun mz ac w1 => ∃ (j : Nat) (fnd : Bool) (P : Pub), mz = l.length - j ∧ (j ≤ l.length) ∧ ((fnd = false ∧ P = pub0 ∧ minOf pubLt (rootsOf (l.take j) a) = none) ∨ (fnd = true ∧ minOf pubLt (rootsOf (l.take j) a) = some P)) ∧ St 88 w [] [(0, v), (3, ptr b3), (5, ptr b5), (6, .bool fnd), (7, I j)] ((b5, .cells (pubC P) 31 (0, 0)) :: (b3, .cells (idC a) 28 (0, 0)) :: φ) ac w1) _ (fun ac w1 hs => ⟨0, false, pub0, rfl, (by omega), (.inl ⟨rfl, rfl, rfl⟩), st_sub hs _ rfl⟩) ?_
  rintro _ ac1 wl1 ⟨j, fnd, P, rfl, hj, hm, hs1⟩
  refine wc_at hs1 ?_
  refine wc_seq ?_
  refine wc_seq ?_
  refine wc_plain [(0, .x true), (1, .x true), (2, .x true), (3, .x true)] (by kernel_rfl) ?_
  refine ws_l rfl rfl rfl rfl (rd_move rfl) ?_
  refine ws_l rfl rfl rfl rfl (rd_move rfl) ?_
  refine ws_l rfl rfl rfl rfl (rd_lenS hsrc rfl Tryz.underlying25) ?_
  refine ws_lcmp rfl rfl rfl (rfl) (rfl) (rfl) ?_ ?_
  · intro h15
    refine ws_nil ?_
    refine qe_then ?_
    refine wc_true rfl ?_
    refine wc_skip ?_
    refine qe_then ?_
    refine wc_seq ?_
    refine wc_block ?_
    refine wc_seq ?_
    refine wc_drawn mixedT _ (fun _ h => h) [(0, .r), (1, .r), (2, .r), (3, .r), (4, .r), (5, .r), (6, .r), (7, .r), (8, .r), (9, .r), (10, .r), (11, .r), (12, .r), (13, .r), (14, .r), (15, .r), (16, .r), (17, .r), (18, .r), (19, .r), (20, .r), (21, .r), (22, .r), (23, .r), (24, .r), (25, .x true), (26, .x true), (27, .x true)] (by kernel_rfl) ?_
    refine ws_r rfl rfl rfl rfl (rd_move rfl) ?_
    refine ws_r rfl rfl rfl rfl (rd_move rfl) ?_
    have hjl : j < l.length := by simp only [cmpP] at h15; omega
    obtain ⟨bg, og, cg, csg, Eg, frg, rfl, hmg, hcg⟩ := Src.opened hsrc (by omega)
    have hmig : HM bg (.cells csg Eg frg) φ := ⟨hmg⟩
    obtain ⟨x, hx⟩ := at_ex (l := l) (j := j) (by omega)
    have atx : AtR csg (og + j * 84) x := at_rk hcg hx
    refine ws_r rfl rfl rfl rfl (rd_index (og + j * 84) rfl rfl Tryz.underlying25 Tryz.sizeOf53 ⟨by omega, by omega⟩ (by simp)) ?_
    refine ws_r rfl rfl rfl rfl (rd_fieldAddr rfl) ?_
    refine ws_r rfl rfl rfl rfl (rd_load rfl) ?_
    refine ws_r rfl rfl rfl rfl (rd_load rfl) ?_
    refine ws_rp _ rfl rfl rfl rfl (rd_eqid rfl rfl Tryz.underlying28 (by kernel_rfl)) ?_ ?_
    · intro h24
      refine ws_r rfl rfl rfl rfl (rd_move rfl) ?_
      refine ws_r rfl rfl rfl rfl (rd_move rfl) ?_
      refine ws_r rfl rfl rfl rfl (rd_move rfl) ?_
      refine ws_r rfl rfl rfl rfl (rd_index (og + j * 84) rfl rfl Tryz.underlying25 Tryz.sizeOf53 ⟨by omega, by omega⟩ (by simp)) ?_
      refine ws_r rfl rfl rfl rfl (rd_fieldAddr rfl) ?_
      refine ws_r rfl rfl rfl rfl (rd_load rfl) ?_
      refine ws_rcmp rfl rfl rfl (rfl) (rfl) (rfl) ?_ ?_
      · intro h31
        simp only [cmpP] at h31
        refine ws_r rfl rfl rfl rfl (rd_pick_t rfl rfl) ?_
        refine ws_r rfl rfl rfl rfl (rd_move rfl) ?_
        rcases hm with ⟨rfl, rfl, hmin⟩ | ⟨rfl, hmin⟩
        ·
          refine ws_r rfl rfl rfl rfl (rd_move rfl) ?_
          refine ws_r rfl rfl rfl rfl (rd_not rfl) ?_
          refine ws_r rfl rfl rfl rfl (rd_move rfl) ?_
          refine ws_rskip rfl rfl rfl rfl ?_
          refine ws_rskip rfl rfl rfl rfl ?_
          refine ws_rskip rfl rfl rfl rfl ?_
          refine ws_rskip rfl rfl rfl rfl ?_
          refine ws_rskip rfl rfl rfl rfl ?_
          refine ws_rskip rfl rfl rfl rfl ?_
          refine ws_late rfl ?_
          refine ws_xskip rfl rfl rfl rfl ?_
          refine ws_l rfl rfl rfl rfl (rd_pick_t rfl rfl) ?_
          refine ws_l rfl rfl rfl rfl (rd_pick_t rfl rfl) ?_
          refine ws_nil ?_
          refine qe_then ?_
          refine wc_true rfl ?_
          refine wc_plain [(0, .x true), (1, .x true), (2, .x true), (3, .x true), (4, .x true), (5, .x true), (6, .x true)] (by kernel_rfl) ?_
          refine ws_l rfl rfl rfl rfl (rd_move rfl) ?_
          refine ws_l rfl rfl rfl rfl (rd_move rfl) ?_
          refine ws_l rfl rfl rfl rfl (rd_index (og + j * 84) rfl rfl Tryz.underlying25 Tryz.sizeOf53 ⟨by omega, by omega⟩ (by simp)) ?_
          refine ws_l rfl rfl rfl rfl (rd_fieldAddr rfl) ?_
          refine ws_l rfl rfl rfl rfl (rd_load rfl) ?_
          refine ws_store rfl rfl rfl rfl (by first | exact .inl (by assumption) | exact .inr (by simp)) (fun _ h _ => by first | (cases h; done) | exact List.mem_cons_of_mem _ h | exact List.mem_cons_of_mem _ (List.mem_cons_of_mem _ h) | (simp at h ⊢; simp [h])) ?_
          refine ws_l rfl rfl rfl rfl (rd_assign rfl) ?_
          refine ws_nil ?_
          refine qe_block ?_
          refine qe_then ?_
          refine wc_plain [(0, .x true), (1, .x true), (2, .x true)] (by kernel_rfl) ?_
          refine ws_l rfl rfl rfl rfl (rd_move rfl) ?_
          refine ws_l rfl rfl rfl rfl (rd_arith (((j + 1 : Nat) : Nat) : Int) rfl rfl rfl (by rw [wrap_i64 _ (by omega) (by omega)]; omega)) ?_
          refine ws_l rfl rfl rfl rfl (rd_assign rfl) ?_
          refine ws_nil ?_
          exact qe_loop fun ac2 w2 hs2 => ⟨_, by (simp only [cmpP] at h15; omega), j + 1, true, x.p, rfl, (by simp only [cmpP] at h15; omega), (by rw [take_at hx, roots_snoc]; rw [if_pos ⟨h24, h31⟩, minOf_snoc, hmin]; exact .inr ⟨rfl, rfl⟩), st_sub hs2 _ rfl⟩
        ·
          refine ws_r rfl rfl rfl rfl (rd_move rfl) ?_
          refine ws_r rfl rfl rfl rfl (rd_not rfl) ?_
          refine ws_r rfl rfl rfl rfl (rd_move rfl) ?_
          refine ws_r rfl rfl rfl rfl (rd_move rfl) ?_
          refine ws_r rfl rfl rfl rfl (rd_move rfl) ?_
          refine ws_r rfl rfl rfl rfl (rd_index (og + j * 84) rfl rfl Tryz.underlying25 Tryz.sizeOf53 ⟨by omega, by omega⟩ (by simp)) ?_
          refine ws_r rfl rfl rfl rfl (rd_fieldAddr rfl) ?_
          refine ws_r rfl rfl rfl rfl (rd_load rfl) ?_
          refine ws_r rfl rfl rfl rfl (rd_load rfl) ?_
          refine ws_late rfl ?_
          refine ws_callb (decide _) rfl rfl rfl rfl rfl (En.go) (fun w hp hn ho => less_ref x.p P w) ?_ ?_
          · intro hlt
            have hlt := of_decide_eq_true hlt
            refine ws_l rfl rfl rfl rfl (rd_pick_f rfl rfl) ?_
            refine ws_l rfl rfl rfl rfl (rd_pick_t rfl rfl) ?_
            refine ws_nil ?_
            refine qe_then ?_
            refine wc_true rfl ?_
            refine wc_plain [(0, .x true), (1, .x true), (2, .x true), (3, .x true), (4, .x true), (5, .x true), (6, .x true)] (by kernel_rfl) ?_
            refine ws_l rfl rfl rfl rfl (rd_move rfl) ?_
            refine ws_l rfl rfl rfl rfl (rd_move rfl) ?_
            refine ws_l rfl rfl rfl rfl (rd_index (og + j * 84) rfl rfl Tryz.underlying25 Tryz.sizeOf53 ⟨by omega, by omega⟩ (by simp)) ?_
            refine ws_l rfl rfl rfl rfl (rd_fieldAddr rfl) ?_
            refine ws_l rfl rfl rfl rfl (rd_load rfl) ?_
            refine ws_store rfl rfl rfl rfl (by first | exact .inl (by assumption) | exact .inr (by simp)) (fun _ h _ => by first | (cases h; done) | exact List.mem_cons_of_mem _ h | exact List.mem_cons_of_mem _ (List.mem_cons_of_mem _ h) | (simp at h ⊢; simp [h])) ?_
            refine ws_l rfl rfl rfl rfl (rd_assign rfl) ?_
            refine ws_nil ?_
            refine qe_block ?_
            refine qe_then ?_
            refine wc_plain [(0, .x true), (1, .x true), (2, .x true)] (by kernel_rfl) ?_
            refine ws_l rfl rfl rfl rfl (rd_move rfl) ?_
            refine ws_l rfl rfl rfl rfl (rd_arith (((j + 1 : Nat) : Nat) : Int) rfl rfl rfl (by rw [wrap_i64 _ (by omega) (by omega)]; omega)) ?_
            refine ws_l rfl rfl rfl rfl (rd_assign rfl) ?_
            refine ws_nil ?_
            exact qe_loop fun ac2 w2 hs2 => ⟨_, by (simp only [cmpP] at h15; omega), j + 1, true, x.p, rfl, (by simp only [cmpP] at h15; omega), (by rw [take_at hx, roots_snoc]; rw [if_pos ⟨h24, h31⟩, minOf_snoc, hmin]; exact .inr ⟨rfl, congrArg some (if_pos hlt)⟩), st_sub hs2 _ rfl⟩
          · intro hlt
            have hlt := of_decide_eq_false hlt
            refine ws_l rfl rfl rfl rfl (rd_pick_f rfl rfl) ?_
            refine ws_l rfl rfl rfl rfl (rd_pick_t rfl rfl) ?_
            refine ws_nil ?_
            refine qe_then ?_
            refine wc_false rfl ?_
            refine wc_skip ?_
            refine qe_block ?_
            refine qe_then ?_
            refine wc_plain [(0, .x true), (1, .x true), (2, .x true)] (by kernel_rfl) ?_
            refine ws_l rfl rfl rfl rfl (rd_move rfl) ?_
            refine ws_l rfl rfl rfl rfl (rd_arith (((j + 1 : Nat) : Nat) : Int) rfl rfl rfl (by rw [wrap_i64 _ (by omega) (by omega)]; omega)) ?_
            refine ws_l rfl rfl rfl rfl (rd_assign rfl) ?_
            refine ws_nil ?_
            exact qe_loop fun ac2 w2 hs2 => ⟨_, by (simp only [cmpP] at h15; omega), j + 1, true, P, rfl, (by simp only [cmpP] at h15; omega), (by rw [take_at hx, roots_snoc]; rw [if_pos ⟨h24, h31⟩, minOf_snoc, hmin]; exact .inr ⟨rfl, congrArg some (if_neg hlt)⟩), st_sub hs2 _ rfl⟩
      · intro h31
        simp only [cmpP] at h31
        refine ws_r rfl rfl rfl rfl (rd_pick_t rfl rfl) ?_
        refine ws_r rfl rfl rfl rfl (rd_move rfl) ?_
        refine ws_rskip rfl rfl rfl rfl ?_
        refine ws_rskip rfl rfl rfl rfl ?_
        refine ws_rskip rfl rfl rfl rfl ?_
        refine ws_rskip rfl rfl rfl rfl ?_
        refine ws_rskip rfl rfl rfl rfl ?_
        refine ws_rskip rfl rfl rfl rfl ?_
        refine ws_rskip rfl rfl rfl rfl ?_
        refine ws_rskip rfl rfl rfl rfl ?_
        refine ws_rskip rfl rfl rfl rfl ?_
        refine ws_late rfl ?_
        refine ws_xskip rfl rfl rfl rfl ?_
        refine ws_xskip rfl rfl rfl rfl ?_
        refine ws_l rfl rfl rfl rfl (rd_pick_f rfl rfl) ?_
        refine ws_nil ?_
        refine qe_then ?_
        refine wc_false rfl ?_
        refine wc_skip ?_
        refine qe_block ?_
        refine qe_then ?_
        refine wc_plain [(0, .x true), (1, .x true), (2, .x true)] (by kernel_rfl) ?_
        refine ws_l rfl rfl rfl rfl (rd_move rfl) ?_
        refine ws_l rfl rfl rfl rfl (rd_arith (((j + 1 : Nat) : Nat) : Int) rfl rfl rfl (by rw [wrap_i64 _ (by omega) (by omega)]; omega)) ?_
        refine ws_l rfl rfl rfl rfl (rd_assign rfl) ?_
        refine ws_nil ?_
        exact qe_loop fun ac2 w2 hs2 => ⟨_, by (simp only [cmpP] at h15; omega), j + 1, fnd, P, rfl, (by simp only [cmpP] at h15; omega), (by rw [take_at hx, roots_snoc]; rw [if_neg (fun h => h31 h.2)]; exact hm), st_sub hs2 _ rfl⟩
    · intro h24
      refine ws_r rfl rfl rfl rfl (rd_move rfl) ?_
      refine ws_rskip rfl rfl rfl rfl ?_
      refine ws_rskip rfl rfl rfl rfl ?_
      refine ws_rskip rfl rfl rfl rfl ?_
      refine ws_rskip rfl rfl rfl rfl ?_
      refine ws_rskip rfl rfl rfl rfl ?_
      refine ws_rskip rfl rfl rfl rfl ?_
      refine ws_r rfl rfl rfl rfl (rd_pick_f rfl rfl) ?_
      refine ws_r rfl rfl rfl rfl (rd_move rfl) ?_
      refine ws_rskip rfl rfl rfl rfl ?_
      refine ws_rskip rfl rfl rfl rfl ?_
      refine ws_rskip rfl rfl rfl rfl ?_
      refine ws_rskip rfl rfl rfl rfl ?_
      refine ws_rskip rfl rfl rfl rfl ?_
      refine ws_rskip rfl rfl rfl rfl ?_
      refine ws_rskip rfl rfl rfl rfl ?_
      refine ws_rskip rfl rfl rfl rfl ?_
      refine ws_rskip rfl rfl rfl rfl ?_
      refine ws_late rfl ?_
      refine ws_xskip rfl rfl rfl rfl ?_
      refine ws_xskip rfl rfl rfl rfl ?_
      refine ws_l rfl rfl rfl rfl (rd_pick_f rfl rfl) ?_
      refine ws_nil ?_
      refine qe_then ?_
      refine wc_false rfl ?_
      refine wc_skip ?_
      refine qe_block ?_
      refine qe_then ?_
      refine wc_plain [(0, .x true), (1, .x true), (2, .x true)] (by kernel_rfl) ?_
      refine ws_l rfl rfl rfl rfl (rd_move rfl) ?_
      refine ws_l rfl rfl rfl rfl (rd_arith (((j + 1 : Nat) : Nat) : Int) rfl rfl rfl (by rw [wrap_i64 _ (by omega) (by omega)]; omega)) ?_
      refine ws_l rfl rfl rfl rfl (rd_assign rfl) ?_
      refine ws_nil ?_
      exact qe_loop fun ac2 w2 hs2 => ⟨_, by (simp only [cmpP] at h15; omega), j + 1, fnd, P, rfl, (by simp only [cmpP] at h15; omega), (by rw [take_at hx, roots_snoc]; rw [if_neg (fun h => h24 h.1)]; exact hm), st_sub hs2 _ rfl⟩
  · intro h15
    refine ws_nil ?_
    refine qe_then ?_
    refine wc_false rfl ?_
    refine wc_exit ?_
    refine qe_then_exit ?_
    refine qe_then_exit ?_
    refine qe_block_exit ?_
    refine qe_then ?_
    refine wc_keep [(0, _), (3, _), (5, _), (6, _)] rfl ?_
    refine wc_seq ?_
    refine wc_plain [(0, .x true)] (by kernel_rfl) ?_
    rw [List.take_of_length_le (by simp only [cmpP] at h15; omega)] at hm
    refine ws_l rfl rfl rfl rfl (rd_assign rfl) ?_
    refine ws_nil ?_
    refine qe_then ?_
    refine wc_seq ?_
    refine wc_seq ?_
    refine wc_plain [(0, .x true)] (by kernel_rfl) ?_
    refine ws_l rfl rfl rfl rfl (rd_assign rfl) ?_
    refine ws_nil ?_
    refine qe_then ?_
    refine wc_block ?_
    refine wc_loop (fun mz ac w1 => ∃ (nn : Nat) (fnd : Bool) (q : Pub) (out : List KK) (v8 : Value) (ν8 : Heap), mz = 1002 - nn ∧ (OwnR w.heap.size 79 51 v8 ν8 out.length (out.flatMap kkL)) ∧ (out.length = nn) ∧ ((fnd = true → nn ≤ 1000) ∧ nn ≤ 1001) ∧ (out ++ (if fnd = true then chainG l a (1001 - nn) nn q else []) = chainF l a) ∧ St 88 w [] [(0, v), (3, ptr b3), (5, ptr b5), (6, .bool fnd), (8, v8), (9, I nn)] (ν8 ++ ((b5, .cells (pubC q) 31 (0, 0)) :: (b3, .cells (idC a) 28 (0, 0)) :: φ)) ac w1) _ (fun ac w1 hs => ⟨0, fnd, P, [], .slice none 0 0, [], rfl, (OwnR.nil _ _ _), (rfl), (⟨fun _ => by omega, by omega⟩), (by rw [chainF, rootF]; rcases hm with ⟨rfl, _, hm⟩ | ⟨rfl, hm⟩ <;> rw [hm] <;> rfl), st_sub hs _ rfl⟩) ?_
    rintro _ ac2 wl2 ⟨nn, fnd, q, out, v8, ν8, rfl, hown, hol, hnn, hch, hs2⟩
    refine wc_at hs2 ?_
    refine wc_seq ?_
    refine wc_seq ?_
    refine wc_plain [(0, .x true)] (by kernel_rfl) ?_
    cases fnd with
    | false =>
      refine ws_l rfl rfl rfl rfl (rd_move rfl) ?_
      rw [if_neg (by simp), List.append_nil] at hch
      refine ws_nil ?_
      refine qe_then ?_
      refine wc_false rfl ?_
      refine wc_exit ?_
      refine qe_then_exit ?_
      refine qe_then_exit ?_
      refine qe_block_exit ?_
      refine qe_then ?_
      refine wc_keep [(8, _)] rfl ?_
      refine wc_seq ?_
      refine wc_plain [(0, .x true), (1, .x true)] (by kernel_rfl) ?_
      refine ws_l rfl rfl rfl rfl (rd_move rfl) ?_
      refine ws_l rfl rfl rfl rfl (rd_assign rfl) ?_
      refine ws_nil ?_
      refine qe_then ?_
      refine wc_ret ?_
      refine qe_body _ (.inl rfl) (res1 rfl (RV.tmp rfl)) ?_
      exact ret_end fun w hp hn ho => ⟨ν8, by rw [← hch]; exact hown, (hp.mono SubH.mem)⟩
    | true =>
      refine ws_l rfl rfl rfl rfl (rd_move rfl) ?_
      have hn1000 : nn ≤ 1000 := hnn.1 rfl
      rw [if_pos rfl] at hch
      refine ws_nil ?_
      refine qe_then ?_
      refine wc_true rfl ?_
      refine wc_skip ?_
      refine qe_then ?_
      refine wc_seq ?_
      refine wc_block ?_
      refine wc_seq ?_
      refine wc_plain [(0, .x true), (1, .x true), (2, .x true), (3, .x true), (4, .x true)] (by kernel_rfl) ?_
      refine ws_l rfl rfl rfl rfl (rd_move rfl) ?_
      refine ws_l rfl rfl rfl rfl (rd_load rfl) ?_
      refine ws_l rfl rfl rfl rfl (rd_build rfl) ?_
      refine ws_alloc rfl rfl rfl ?_
      intro b10 hb10
      refine ws_store rfl rfl rfl rfl (by first | exact .inl (by assumption) | exact .inr (by simp)) (fun _ h _ => by first | (cases h; done) | exact List.mem_cons_of_mem _ h | exact List.mem_cons_of_mem _ (List.mem_cons_of_mem _ h) | (simp at h ⊢; simp [h])) ?_
      refine ws_nil ?_
      refine qe_then ?_
      refine wc_seq ?_
      refine wc_plain [(0, .x true), (1, .x true), (2, .x true), (3, .x true), (4, .x true), (5, .x true)] (by kernel_rfl) ?_
      refine ws_l rfl rfl rfl rfl (rd_move rfl) ?_
      refine ws_l rfl rfl rfl rfl (rd_load rfl) ?_
      refine ws_l rfl rfl rfl rfl (rd_move rfl) ?_
      refine ws_l rfl rfl rfl rfl (rd_load rfl) ?_
      refine ws_call rfl rfl rfl rfl rfl (En.go) (fun w hp hn ho => end_ref v φ l hsrc hlen a nn q w (hp.mono SubH.mem) hnd) (fun _ h => by cases h) (fun hh q h => by first | (cases h; done) | exact hh q h) ?_
      rintro v61 wa wb hpo hon hon2 hp1 ⟨i, rfl, hend⟩
      refine ⟨[], HpOK.nil _, by simp, by simp, ?_⟩
      refine ws_l rfl rfl rfl rfl (rd_assign rfl) ?_
      refine ws_nil ?_
      refine qe_then ?_
      refine wc_seq ?_
      refine wc_seq ?_
      refine wc_plain [(0, .x true), (1, .x true)] (by kernel_rfl) ?_
      refine ws_l rfl rfl rfl rfl (rd_move rfl) ?_
      rcases hend with ⟨he, rfl⟩ | ⟨k, r, rfl, hlk, he⟩
      ·
        refine ws_l rfl rfl rfl rfl (rd_cmp_f rfl rfl rfl (by simp only [cmpP]; omega)) ?_
        refine ws_nil ?_
        refine qe_then ?_
        refine wc_false rfl ?_
        refine wc_skip ?_
        refine qe_then ?_
        refine wc_seq ?_
        refine wc_plain [(0, .x true), (1, .x true), (2, .x true)] (by kernel_rfl) ?_
        refine ws_l rfl rfl rfl rfl (rd_move rfl) ?_
        refine ws_l rfl rfl rfl rfl (rd_cmp_f rfl rfl rfl (by simp only [cmpP]; omega)) ?_
        refine ws_l rfl rfl rfl rfl (rd_assign rfl) ?_
        refine ws_nil ?_
        refine qe_then ?_
        refine wc_plain [(0, .x true), (1, .x true), (2, .x true), (3, .x true), (4, .x true)] (by kernel_rfl) ?_
        refine ws_l rfl rfl rfl rfl (rd_move rfl) ?_
        refine ws_l rfl rfl rfl rfl (rd_load rfl) ?_
        refine ws_buildSlice rfl rfl rfl rfl ?_
        intro b85 hb85
        refine ws_append rfl rfl rfl rfl rfl hown (by simp [kkC_size]) (kkC_one _) (by simp only [maxLen]; omega) (by omega) (fun _ _ _ h => by first | (cases h; done) | (simp only [List.mem_append, List.mem_cons] at h ⊢; grind) | skip) ?_
        intro v8' ν8' hown8'
        refine ws_l rfl rfl rfl rfl (rd_assign rfl) ?_
        refine ws_nil ?_
        refine qe_block ?_
        refine qe_then ?_
        refine wc_plain [(0, .x true), (1, .x true), (2, .x true)] (by kernel_rfl) ?_
        refine ws_l rfl rfl rfl rfl (rd_move rfl) ?_
        refine ws_l rfl rfl rfl rfl (rd_arith (((nn + 1 : Nat) : Nat) : Int) rfl rfl rfl (by rw [wrap_i64 _ (by omega) (by omega)]; omega)) ?_
        refine ws_l rfl rfl rfl rfl (rd_assign rfl) ?_
        refine ws_nil ?_
        exact qe_loop fun ac2 w2 hs2 => ⟨_, by omega, nn + 1, false, q, out ++ [⟨nn, q, -1, id0⟩], v8', ν8', rfl, (Row.app (enc := kkL) (ys := [(⟨nn, q, -1, id0⟩ : KK)]) hown8' rfl (by simp)), (by simp [hol]), (⟨fun h => by simp at h, by omega⟩), (by rw [if_neg (by simp), ← hch, chain_none he hn1000]; simp), st_sub hs2 _ rfl⟩
      ·
        refine ws_l rfl rfl rfl rfl (rd_cmp_t rfl rfl rfl (by simp only [cmpP]; omega)) ?_
        have hkl := (List.getElem?_eq_some_iff.1 hlk).1
        have hnx := end_next hok he
        refine ws_nil ?_
        refine qe_then ?_
        refine wc_true rfl ?_
        refine wc_drawn mixedT φ SubH.mem [(0, .r), (1, .r), (2, .r), (3, .r), (4, .r), (5, .r), (6, .r), (7, .r), (8, .r), (9, .r), (10, .r), (11, .r), (12, .r), (13, .r), (14, .r), (15, .r), (16, .x false), (17, .r), (18, .x false), (19, .x true)] (by kernel_rfl) ?_
        refine ws_r rfl rfl rfl rfl (rd_move rfl) ?_
        refine ws_r rfl rfl rfl rfl (rd_move rfl) ?_
        obtain ⟨bg, og, cg, csg, Eg, frg, rfl, hmg, hcg⟩ := Src.opened hsrc (by omega)
        have hmig : HM bg (.cells csg Eg frg) φ := ⟨hmg⟩
        have atr : AtR csg (og + k * 84) r := at_rk hcg hlk
        refine ws_r rfl rfl rfl rfl (rd_index (og + k * 84) rfl rfl Tryz.underlying25 Tryz.sizeOf53 ⟨by omega, by omega⟩ (by simp)) ?_
        refine ws_r rfl rfl rfl rfl (rd_fieldAddr rfl) ?_
        refine ws_r rfl rfl rfl rfl (rd_load rfl) ?_
        refine ws_r rfl rfl rfl rfl (rd_move rfl) ?_
        refine ws_r rfl rfl rfl rfl (rd_move rfl) ?_
        refine ws_r rfl rfl rfl rfl (rd_index (og + k * 84) rfl rfl Tryz.underlying25 Tryz.sizeOf53 ⟨by omega, by omega⟩ (by simp)) ?_
        refine ws_r rfl rfl rfl rfl (rd_fieldAddr rfl) ?_
        refine ws_r rfl rfl rfl rfl (rd_load rfl) ?_
        refine ws_r rfl rfl rfl rfl (rd_move rfl) ?_
        refine ws_r rfl rfl rfl rfl (rd_move rfl) ?_
        refine ws_r rfl rfl rfl rfl (rd_index (og + k * 84) rfl rfl Tryz.underlying25 Tryz.sizeOf53 ⟨by omega, by omega⟩ (by simp)) ?_
        refine ws_r rfl rfl rfl rfl (rd_fieldAddr rfl) ?_
        refine ws_r rfl rfl rfl rfl (rd_load rfl) ?_
        refine ws_r rfl rfl rfl rfl (rd_fieldAddr rfl) ?_
        refine ws_store rfl rfl rfl rfl (by first | exact .inl (by assumption) | exact .inr (by simp)) (fun q h _ => by first | (cases h; done) | (simp [h])) ?_
        refine ws_r rfl rfl rfl rfl (rd_fieldAddr rfl) ?_
        refine ws_store rfl rfl rfl rfl (by first | exact .inl (by assumption) | exact .inr (by simp)) (fun q h _ => by first | (cases h; done) | (simp [h])) ?_
        refine ws_late rfl ?_
        refine ws_store rfl rfl rfl rfl (by first | exact .inl (by assumption) | exact .inr (by simp)) (fun _ h _ => by first | (cases h; done) | exact List.mem_cons_of_mem _ h | exact List.mem_cons_of_mem _ (List.mem_cons_of_mem _ h) | (simp at h ⊢; simp [h])) ?_
        refine ws_nil ?_
        refine qe_then ?_
        refine wc_seq ?_
        refine wc_plain [(0, .x true), (1, .x true), (2, .x true)] (by kernel_rfl) ?_
        refine ws_l rfl rfl rfl rfl (rd_move rfl) ?_
        refine ws_l rfl rfl rfl rfl (rd_cmp_t rfl rfl rfl (by simp only [cmpP]; omega)) ?_
        refine ws_l rfl rfl rfl rfl (rd_assign rfl) ?_
        refine ws_nil ?_
        refine qe_then ?_
        refine wc_plain [(0, .x true), (1, .x true), (2, .x true), (3, .x true), (4, .x true)] (by kernel_rfl) ?_
        refine ws_l rfl rfl rfl rfl (rd_move rfl) ?_
        refine ws_l rfl rfl rfl rfl (rd_load rfl) ?_
        refine ws_buildSlice rfl rfl rfl rfl ?_
        intro b85 hb85
        refine ws_append rfl rfl rfl rfl rfl hown (by simp [kkC_size]) (kkC_one _) (by simp only [maxLen]; omega) (by omega) (fun _ _ _ h => by first | (cases h; done) | (simp only [List.mem_append, List.mem_cons] at h ⊢; grind) | skip) ?_
        intro v8' ν8' hown8'
        refine ws_l rfl rfl rfl rfl (rd_assign rfl) ?_
        refine ws_nil ?_
        refine qe_block ?_
        refine qe_then ?_
        refine wc_plain [(0, .x true), (1, .x true), (2, .x true)] (by kernel_rfl) ?_
        refine ws_l rfl rfl rfl rfl (rd_move rfl) ?_
        refine ws_l rfl rfl rfl rfl (rd_arith (((nn + 1 : Nat) : Nat) : Int) rfl rfl rfl (by rw [wrap_i64 _ (by omega) (by omega)]; omega)) ?_
        refine ws_l rfl rfl rfl rfl (rd_assign rfl) ?_
        refine ws_nil ?_
        exact qe_loop fun ac2 w2 hs2 => ⟨_, by omega, nn + 1, true, r.q, out ++ [⟨nn, q, r.leaf, r.id⟩], v8', ν8', rfl, (Row.app (enc := kkL) (ys := [(⟨nn, q, r.leaf, r.id⟩ : KK)]) hown8' rfl (by simp)), (by simp [hol]), (⟨fun _ => by have := hnx.1; simp only at this; omega, by omega⟩), (by rw [if_pos rfl, ← hch, chain_some he hn1000]; simp), st_sub hs2 _ rfl⟩

end Go.Proofs.YtheioljidangkaaGreat
