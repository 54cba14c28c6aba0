/- Walk: the reference's Successors. No conditions. -/
import Derived.Test.YtaagmgpfpaanlaaIxs
import Derived.Test.YtaagmgpfpaanlaaW10
namespace Go.Proofs.Ytaagmgpfpaanlaa
open Go Go.RowKit Go.Sx
set_option linter.unusedSimpArgs false
set_option linter.unusedVariables false

set_option maxRecDepth 100000 in
set_option maxHeartbeats 4000000 in
theorem succ_ref (v : Value) (φ : Heap) (l : List RR) (hsrc : Src φ v 82 l.length (l.flatMap rrL)) (hlen : l.length < 1048576) (hn0 : (l.map RR.id).Nodup) (i : Nat) (x : RR) (hi : l[i]? = some x) (w : World) (hφ : HpOK φ w) (hnd : (φ.map Prod.fst).Nodup) : Ret Try.prog 37 [v, I i] w [] (fun u w' => ∃ (out : List Ix) (g' : GV) (ν' : Heap), u = g'.v ∧ OwnR w.heap.size 3 1 g'.v ν' out.length (out.flatMap ixL) ∧ HpOK ν' w' ∧ out.map Prod.snd = succR l x ∧ ∀ q ∈ out, l[q.1]? = some q.2) := by
  have hil := (List.getElem?_eq_some_iff.1 hi).1
  refine enter (n := 97) (args := [v, I i]) [] φ Try.func37 rfl rfl rfl hφ hnd ?_
  refine wc_seq ?_
  refine wc_plain [(0, .x true)] (by kernel_rfl) ?_
  refine ws_l rfl rfl rfl rfl (rd_assign rfl) ?_
  refine ws_nil ?_
  refine qe_then ?_
  refine wc_seq ?_
  refine wc_plain [(0, .x true)] (by kernel_rfl) ?_
  refine ws_l rfl rfl rfl rfl (rd_assign rfl) ?_
  refine ws_nil ?_
  refine qe_then ?_
  refine wc_seq ?_
  refine wc_seq ?_
  refine wc_plain [(0, .x true)] (by kernel_rfl) ?_
  refine ws_l rfl rfl rfl rfl (rd_assign rfl) ?_
  refine ws_nil ?_
  refine qe_then ?_
  refine wc_block ?_
  refine wc_loop (fun mz ac w1 => ∃ (j : Nat) (out : List Ix) (v5 : Value) (ν5 : Heap), mz = l.length - j ∧ (j ≤ l.length) ∧ (OwnR w.heap.size 3 1 v5 ν5 out.length (out.flatMap ixL)) ∧ ((out.map Prod.snd).Perm ((l.take j).filter (fun y => decide (valB x y)))) ∧ ((out.map Prod.snd).Pairwise (fun a b => ¬ ordLt b a)) ∧ (∀ q ∈ out, l[q.1]? = some q.2) ∧ St 97 w [] [(0, v), (1, I i), (5, v5), (6, I j)] (ν5 ++ φ) ac w1) _ (fun ac w1 hs => ⟨0, [], .slice none 0 0, [], rfl, (by omega), (OwnR.nil _ _ _), (by simp), (List.Pairwise.nil), (by simp), st_sub hs _ rfl⟩) ?_
  rintro _ ac1 wl1 ⟨j, out, v5, ν5, rfl, hj, hown, hpm, hso, hall, hs1⟩
  refine wc_at hs1 ?_
  refine wc_seq ?_
  refine wc_seq ?_
  refine wc_plain [(0, .x true), (1, .x true), (2, .x true), (3, .x true)] (by kernel_rfl) ?_
  refine ws_l rfl rfl rfl rfl (rd_move rfl) ?_
  refine ws_l rfl rfl rfl rfl (rd_move rfl) ?_
  refine ws_l rfl rfl rfl rfl (rd_lenS hsrc rfl Try.underlying22) ?_
  refine ws_lcmp rfl rfl rfl (rfl) (rfl) (rfl) ?_ ?_
  · intro h12
    refine ws_nil ?_
    refine qe_then ?_
    refine wc_true rfl ?_
    refine wc_skip ?_
    refine qe_then ?_
    refine wc_seq ?_
    refine wc_block ?_
    refine wc_seq ?_
    refine wc_seq ?_
    refine wc_drawn mixedT _ (fun _ h => h) [(0, .r), (1, .r), (2, .r), (3, .r), (4, .r), (5, .r), (6, .r), (7, .r), (8, .x true), (9, .x true)] (by kernel_rfl) ?_
    refine ws_r rfl rfl rfl rfl (rd_move rfl) ?_
    refine ws_r rfl rfl rfl rfl (rd_move rfl) ?_
    obtain ⟨bv, ov, cv, csv, Ev, frv, rfl, hmv, hcv⟩ := Src.opened hsrc (by omega)
    have hmiv : HM bv (.cells csv Ev frv) φ := ⟨hmv⟩
    have atx : AtR csv (ov + i * 82) x := at_r hcv hi
    obtain ⟨y, hy⟩ := at_ex (l := l) (j := j) (by simp only [cmpP] at h12; omega)
    have aty : AtR csv (ov + j * 82) y := at_r hcv hy
    refine ws_r rfl rfl rfl rfl (rd_index (ov + i * 82) rfl rfl Try.underlying22 Try.sizeOf46 ⟨by omega, by first | omega | (simp only [cmpP] at h12; omega)⟩ (by simp)) ?_
    refine ws_r rfl rfl rfl rfl (rd_load rfl) ?_
    refine ws_r rfl rfl rfl rfl (rd_move rfl) ?_
    refine ws_r rfl rfl rfl rfl (rd_move rfl) ?_
    refine ws_r rfl rfl rfl rfl (rd_index (ov + j * 82) rfl rfl Try.underlying22 Try.sizeOf46 ⟨by omega, by first | omega | (simp only [cmpP] at h12; omega)⟩ (by simp)) ?_
    refine ws_r rfl rfl rfl rfl (rd_load rfl) ?_
    refine ws_late rfl ?_
    refine ws_callb (decide _) rfl rfl rfl rfl rfl (En.go) (fun w hp hn ho => valid_ref x y w) ?_ ?_
    · intro hval
      refine ws_l rfl rfl rfl rfl (rd_not rfl) ?_
      refine ws_nil ?_
      refine qe_then ?_
      refine wc_false rfl ?_
      refine wc_skip ?_
      refine qe_then ?_
      refine wc_seq ?_
      refine wc_plain [(0, .x true), (1, .x true), (2, .x true)] (by kernel_rfl) ?_
      refine ws_l rfl rfl rfl rfl (rd_move rfl) ?_
      refine ws_l rfl rfl rfl rfl (rd_lenO hown rfl Try.underlying66) ?_
      refine ws_l rfl rfl rfl rfl (rd_assign rfl) ?_
      refine ws_nil ?_
      refine qe_then ?_
      refine wc_seq ?_
      refine wc_block ?_
      refine wc_loop (fun mz ac w1 => ∃ (a : Nat), mz = a * 2 ∧ (a ≤ out.length) ∧ (∀ q ∈ out.drop a, ordLt y q.2) ∧ St 97 w [] [(0, .slice (some ⟨bv, ov, none⟩) l.length cv), (1, I i), (5, v5), (6, I j), (7, I a)] (ν5 ++ φ) ac w1) _ (fun ac w1 hs => ⟨out.length, rfl, (by omega), (by simp), st_sub hs _ rfl⟩) ?_
      rintro _ ac2 wl2 ⟨a, rfl, ha, haf, hs2⟩
      refine wc_at hs2 ?_
      have hol : out.length ≤ j := by have h1 := hpm.length_eq; have h2 := List.length_filter_le (fun y => decide (valB x y)) (l.take j); rw [List.length_map] at h1; rw [List.length_take] at h2; omega
      refine wc_seq ?_
      refine wc_seq ?_
      refine wc_drawn mixedT _ (fun _ h => h) [(0, .r), (1, .r), (2, .r), (3, .r), (4, .r), (5, .r), (6, .r), (7, .r), (8, .r), (9, .r), (10, .r), (11, .r), (12, .r), (13, .r), (14, .r), (15, .r), (16, .r), (17, .r), (18, .r), (19, .r), (20, .r), (21, .r), (22, .r), (23, .r), (24, .r), (25, .r), (26, .r), (27, .r), (28, .r), (29, .r), (30, .r), (31, .r), (32, .r), (33, .r), (34, .r), (35, .r), (36, .r), (37, .r), (38, .r), (39, .r), (40, .r), (41, .r), (42, .r), (43, .r), (44, .r), (45, .r), (46, .r), (47, .r), (48, .r), (49, .x false), (50, .r), (51, .r), (52, .r)] (by kernel_rfl) ?_
      refine ws_r rfl rfl rfl rfl (rd_move rfl) ?_
      refine ws_rcmp rfl rfl rfl (rfl) (rfl) (rfl) ?_ ?_
      · intro h28
        obtain ⟨qo, capo, curo, rfl, rfl, hqo, hcapo, hcuro⟩ := OwnR.opened hown (by simp only [cmpP] at h28; omega)
        obtain ⟨q, hq⟩ := at_ex (l := out) (j := a - 1) (by simp only [cmpP] at h28; omega)
        have atq : GetAt curo ((a - 1) * 1) (I (q.1 : Nat)) := ix_get hcuro hq
        have hlq := hall q (List.mem_of_getElem? hq)
        have hql := (List.getElem?_eq_some_iff.1 hlq).1
        have atqr : AtR csv (ov + q.1 * 82) q.2 := at_r hcv hlq
        refine ws_r rfl rfl rfl rfl (rd_move rfl) ?_
        refine ws_r rfl rfl rfl rfl (rd_move rfl) ?_
        refine ws_r rfl rfl rfl rfl (rd_move rfl) ?_
        refine ws_r rfl rfl rfl rfl (rd_index (ov + j * 82) rfl rfl Try.underlying22 Try.sizeOf46 ⟨by omega, by first | omega | (simp only [cmpP] at h12; omega)⟩ (by simp)) ?_
        refine ws_r rfl rfl rfl rfl (rd_fieldAddr rfl) ?_
        refine ws_r rfl rfl rfl rfl (rd_load rfl) ?_
        refine ws_r rfl rfl rfl rfl (rd_move rfl) ?_
        refine ws_r rfl rfl rfl rfl (rd_move rfl) ?_
        refine ws_r rfl rfl rfl rfl (rd_move rfl) ?_
        refine ws_r rfl rfl rfl rfl (rd_arith ((a - 1 : Nat) : Int) rfl rfl rfl (by simp only [cmpP] at h28; rw [wrap_i64 _ (by omega) (by omega)]; omega)) ?_
        refine ws_r rfl rfl rfl rfl (rd_ix rfl rfl Try.underlying66 Try.sizeOf3 (by simp only [cmpP] at h28; omega)) ?_
        refine ws_r rfl rfl rfl rfl (rd_load rfl) ?_
        refine ws_r rfl rfl rfl rfl (rd_index (ov + q.1 * 82) rfl rfl Try.underlying22 Try.sizeOf46 ⟨by omega, by omega⟩ (by simp)) ?_
        refine ws_r rfl rfl rfl rfl (rd_fieldAddr rfl) ?_
        refine ws_r rfl rfl rfl rfl (rd_load rfl) ?_
        refine ws_rcmp rfl rfl rfl (rfl) (rfl) (rfl) ?_ ?_
        · intro h44
          have hlt : ordLt y q.2 := .inl (by simp only [cmpP] at h44; omega)
          refine ws_r rfl rfl rfl rfl (rd_move rfl) ?_
          refine ws_rskip rfl rfl rfl rfl ?_
          refine ws_rskip rfl rfl rfl rfl ?_
          refine ws_rskip rfl rfl rfl rfl ?_
          refine ws_rskip rfl rfl rfl rfl ?_
          refine ws_rskip rfl rfl rfl rfl ?_
          refine ws_rskip rfl rfl rfl rfl ?_
          refine ws_rskip rfl rfl rfl rfl ?_
          refine ws_rskip rfl rfl rfl rfl ?_
          refine ws_rskip rfl rfl rfl rfl ?_
          refine ws_rskip rfl rfl rfl rfl ?_
          refine ws_rskip rfl rfl rfl rfl ?_
          refine ws_rskip rfl rfl rfl rfl ?_
          refine ws_rskip rfl rfl rfl rfl ?_
          refine ws_rskip rfl rfl rfl rfl ?_
          refine ws_rskip rfl rfl rfl rfl ?_
          refine ws_rskip rfl rfl rfl rfl ?_
          refine ws_rskip rfl rfl rfl rfl ?_
          refine ws_rskip rfl rfl rfl rfl ?_
          refine ws_rskip rfl rfl rfl rfl ?_
          refine ws_rskip rfl rfl rfl rfl ?_
          refine ws_rskip rfl rfl rfl rfl ?_
          refine ws_rskip rfl rfl rfl rfl ?_
          refine ws_rskip rfl rfl rfl rfl ?_
          refine ws_rskip rfl rfl rfl rfl ?_
          refine ws_rskip rfl rfl rfl rfl ?_
          refine ws_rskip rfl rfl rfl rfl ?_
          refine ws_rskip rfl rfl rfl rfl ?_
          refine ws_rskip rfl rfl rfl rfl ?_
          refine ws_rskip rfl rfl rfl rfl ?_
          refine ws_rskip rfl rfl rfl rfl ?_
          refine ws_xskip rfl rfl rfl rfl ?_
          refine ws_rskip rfl rfl rfl rfl ?_
          refine ws_r rfl rfl rfl rfl (rd_pick_t rfl rfl) ?_
          refine ws_r rfl rfl rfl rfl (rd_pick_t rfl rfl) ?_
          refine ws_nil ?_
          refine qe_then ?_
          refine wc_true rfl ?_
          refine wc_skip ?_
          refine qe_then ?_
          refine wc_block ?_
          refine wc_plain [(0, .x true), (1, .x true), (2, .x true)] (by kernel_rfl) ?_
          refine ws_l rfl rfl rfl rfl (rd_move rfl) ?_
          refine ws_l rfl rfl rfl rfl (rd_arith ((a - 1 : Nat) : Int) rfl rfl rfl (by simp only [cmpP] at h28; rw [wrap_i64 _ (by omega) (by omega)]; omega)) ?_
          refine ws_l rfl rfl rfl rfl (rd_assign rfl) ?_
          refine ws_nil ?_
          refine qe_block ?_
          exact qe_loop fun ac2 w2 hs2 => ⟨_, by (simp only [cmpP] at h28; omega), a - 1, rfl, (by omega), (by rw [drop_at hq, show a - 1 + 1 = a by simp only [cmpP] at h28; omega]; intro z hz; rcases List.mem_cons.1 hz with rfl | hz; exact hlt; exact haf z hz), st_sub hs2 _ rfl⟩
        · intro h44
          refine ws_r rfl rfl rfl rfl (rd_move rfl) ?_
          refine ws_r rfl rfl rfl rfl (rd_move rfl) ?_
          refine ws_r rfl rfl rfl rfl (rd_move rfl) ?_
          refine ws_r rfl rfl rfl rfl (rd_index (ov + j * 82) rfl rfl Try.underlying22 Try.sizeOf46 ⟨by omega, by first | omega | (simp only [cmpP] at h12; omega)⟩ (by simp)) ?_
          refine ws_r rfl rfl rfl rfl (rd_fieldAddr rfl) ?_
          refine ws_r rfl rfl rfl rfl (rd_load rfl) ?_
          refine ws_r rfl rfl rfl rfl (rd_move rfl) ?_
          refine ws_r rfl rfl rfl rfl (rd_move rfl) ?_
          refine ws_r rfl rfl rfl rfl (rd_move rfl) ?_
          refine ws_r rfl rfl rfl rfl (rd_arith ((a - 1 : Nat) : Int) rfl rfl rfl (by simp only [cmpP] at h28; rw [wrap_i64 _ (by omega) (by omega)]; omega)) ?_
          refine ws_r rfl rfl rfl rfl (rd_ix rfl rfl Try.underlying66 Try.sizeOf3 (by simp only [cmpP] at h28; omega)) ?_
          refine ws_r rfl rfl rfl rfl (rd_load rfl) ?_
          refine ws_r rfl rfl rfl rfl (rd_index (ov + q.1 * 82) rfl rfl Try.underlying22 Try.sizeOf46 ⟨by omega, by omega⟩ (by simp)) ?_
          refine ws_r rfl rfl rfl rfl (rd_fieldAddr rfl) ?_
          refine ws_r rfl rfl rfl rfl (rd_load rfl) ?_
          refine ws_rcmp rfl rfl rfl (rfl) (rfl) (rfl) ?_ ?_
          · intro h60
            refine ws_r rfl rfl rfl rfl (rd_move rfl) ?_
            refine ws_r rfl rfl rfl rfl (rd_move rfl) ?_
            refine ws_r rfl rfl rfl rfl (rd_move rfl) ?_
            refine ws_r rfl rfl rfl rfl (rd_index (ov + j * 82) rfl rfl Try.underlying22 Try.sizeOf46 ⟨by omega, by first | omega | (simp only [cmpP] at h12; omega)⟩ (by simp)) ?_
            refine ws_r rfl rfl rfl rfl (rd_fieldAddr rfl) ?_
            refine ws_r rfl rfl rfl rfl (rd_load rfl) ?_
            refine ws_r rfl rfl rfl rfl (rd_move rfl) ?_
            refine ws_r rfl rfl rfl rfl (rd_move rfl) ?_
            refine ws_r rfl rfl rfl rfl (rd_move rfl) ?_
            refine ws_r rfl rfl rfl rfl (rd_arith ((a - 1 : Nat) : Int) rfl rfl rfl (by simp only [cmpP] at h28; rw [wrap_i64 _ (by omega) (by omega)]; omega)) ?_
            refine ws_r rfl rfl rfl rfl (rd_ix rfl rfl Try.underlying66 Try.sizeOf3 (by simp only [cmpP] at h28; omega)) ?_
            refine ws_r rfl rfl rfl rfl (rd_load rfl) ?_
            refine ws_r rfl rfl rfl rfl (rd_index (ov + q.1 * 82) rfl rfl Try.underlying22 Try.sizeOf46 ⟨by omega, by omega⟩ (by simp)) ?_
            refine ws_r rfl rfl rfl rfl (rd_fieldAddr rfl) ?_
            refine ws_r rfl rfl rfl rfl (rd_load rfl) ?_
            refine ws_callb (decide _) rfl rfl rfl rfl rfl (En.go) (fun w hp hn ho => before_ref y.id q.2.id w) ?_ ?_
            · intro hid
              have hid := of_decide_eq_true hid
              have hlt : ordLt y q.2 := .inr ⟨by simp only [cmpP] at h60; exact h60, hid⟩
              refine ws_r rfl rfl rfl rfl (rd_pick_t rfl rfl) ?_
              refine ws_r rfl rfl rfl rfl (rd_pick_f rfl rfl) ?_
              refine ws_r rfl rfl rfl rfl (rd_pick_t rfl rfl) ?_
              refine ws_nil ?_
              refine qe_then ?_
              refine wc_true rfl ?_
              refine wc_skip ?_
              refine qe_then ?_
              refine wc_block ?_
              refine wc_plain [(0, .x true), (1, .x true), (2, .x true)] (by kernel_rfl) ?_
              refine ws_l rfl rfl rfl rfl (rd_move rfl) ?_
              refine ws_l rfl rfl rfl rfl (rd_arith ((a - 1 : Nat) : Int) rfl rfl rfl (by simp only [cmpP] at h28; rw [wrap_i64 _ (by omega) (by omega)]; omega)) ?_
              refine ws_l rfl rfl rfl rfl (rd_assign rfl) ?_
              refine ws_nil ?_
              refine qe_block ?_
              exact qe_loop fun ac2 w2 hs2 => ⟨_, by (simp only [cmpP] at h28; omega), a - 1, rfl, (by omega), (by rw [drop_at hq, show a - 1 + 1 = a by simp only [cmpP] at h28; omega]; intro z hz; rcases List.mem_cons.1 hz with rfl | hz; exact hlt; exact haf z hz), st_sub hs2 _ rfl⟩
            · intro hid
              have hid := of_decide_eq_false hid
              have hbb : a = 0 ∨ ∃ q, out[a - 1]? = some q ∧ ¬ ordLt y q.2 := .inr ⟨q, hq, fun h => by simp only [cmpP] at h44 h60; rcases h with h | h; omega; exact hid h.2⟩
              refine ws_r rfl rfl rfl rfl (rd_pick_t rfl rfl) ?_
              refine ws_r rfl rfl rfl rfl (rd_pick_f rfl rfl) ?_
              refine ws_r rfl rfl rfl rfl (rd_pick_t rfl rfl) ?_
              refine ws_nil ?_
              refine qe_then ?_
              refine wc_false rfl ?_
              refine wc_exit ?_
              refine qe_then_exit ?_
              refine qe_then_exit ?_
              refine qe_block_exit ?_
              refine qe_then ?_
              refine wc_seq ?_
              refine wc_plain [(0, .x true), (1, .x true), (2, .x true), (3, .x true), (4, .x true), (5, .x true)] (by kernel_rfl) ?_
              refine ws_buildSlice rfl rfl rfl rfl ?_
              intro b82 hb82
              have hlit0 := OwnR.lit0 (E := 3) (k := 1) hb82
              refine ws_l rfl rfl rfl rfl (rd_move rfl) ?_
              refine ws_l rfl rfl rfl rfl (rd_move rfl) ?_
              obtain ⟨uu1, huu1, hsu1⟩ := OwnR.upto hown .i64 a ha Try.underlying66 Try.sizeOf3
              refine ws_l rfl rfl rfl rfl (rd_slice_h Try.underlying66 rfl rfl huu1) ?_
              refine ws_appendS rfl rfl rfl rfl rfl hlit0 (hsu1.mono (fun _ h => by first | (simp [h]; done) | (simp only [List.mem_append, List.mem_cons, List.not_mem_nil, or_false] at h ⊢; simp [h]))) (fun u hu => by have := List.mem_of_mem_take hu; obtain ⟨y, _, hy⟩ := List.mem_flatMap.1 this; exact ixL_one y u hy) (by simp only [maxLen]; omega) (by omega) (fun _ _ _ h => by first | (cases h; done) | (simp only [List.mem_append, List.mem_cons] at h ⊢; grind) | skip) ?_
              intro va νa howna
              have hra : OwnR w.heap.size 3 1 va νa (out.take a).length ((out.take a).flatMap ixL) := by first | (simpa [flat_take ixL_len, Nat.min_eq_left ha] using howna) | (rw [List.nil_append, flat_take ixL_len, Nat.zero_add] at howna; rw [List.length_take, Nat.min_eq_left ha]; exact howna)
              refine ws_l rfl rfl rfl rfl (rd_assign rfl) ?_
              refine ws_nil ?_
              refine qe_then ?_
              refine wc_seq ?_
              refine wc_plain [(0, .x true), (1, .x true), (2, .x true), (3, .x true), (4, .x true)] (by kernel_rfl) ?_
              refine ws_l rfl rfl rfl rfl (rd_move rfl) ?_
              refine ws_l rfl rfl rfl rfl (rd_move rfl) ?_
              refine ws_buildSlice rfl rfl rfl rfl ?_
              intro b89 hb89
              have hal : (out.take a).length = a := by rw [List.length_take]; omega
              refine ws_append rfl rfl rfl rfl rfl hra (by simp) (by simp [Value.oneCell']) (by simp only [maxLen]; omega) (by omega) (fun _ _ _ h => by first | (cases h; done) | (simp only [List.mem_append, List.mem_cons] at h ⊢; grind) | skip) ?_
              intro vb νb hownb
              have hrb : OwnR w.heap.size 3 1 vb νb (out.take a ++ [((j, y) : Ix)]).length ((out.take a ++ [((j, y) : Ix)]).flatMap ixL) := Row.app (enc := ixL) hownb rfl (by simp)
              refine ws_l rfl rfl rfl rfl (rd_assign rfl) ?_
              refine ws_nil ?_
              refine qe_then ?_
              refine wc_plain [(0, .x true), (1, .x true), (2, .x true), (3, .x true), (4, .x true), (5, .x true)] (by kernel_rfl) ?_
              refine ws_l rfl rfl rfl rfl (rd_move rfl) ?_
              refine ws_l rfl rfl rfl rfl (rd_move rfl) ?_
              refine ws_l rfl rfl rfl rfl (rd_move rfl) ?_
              obtain ⟨uu2, huu2, hsu2⟩ := OwnR.behind hown .i64 a ha Try.underlying66 Try.sizeOf3
              refine ws_l rfl rfl rfl rfl (rd_slice_l Try.underlying66 rfl rfl huu2) ?_
              refine ws_appendS rfl rfl rfl rfl rfl hrb (hsu2.mono (fun _ h => by first | (simp [h]; done) | (simp only [List.mem_append, List.mem_cons, List.not_mem_nil, or_false] at h ⊢; simp [h]))) (fun u hu => by have := List.mem_of_mem_drop hu; obtain ⟨y, _, hy⟩ := List.mem_flatMap.1 this; exact ixL_one y u hy) (by simp only [maxLen, List.length_append, hal, List.length_singleton]; omega) (by simp only [List.length_append, hal, List.length_singleton]; omega) (fun _ _ _ h => by first | (cases h; done) | (simp only [List.mem_append, List.mem_cons] at h ⊢; grind) | skip) ?_
              intro vc νc hownc
              have hrc : OwnR w.heap.size 3 1 vc νc (out.take a ++ [((j, y) : Ix)] ++ out.drop a).length ((out.take a ++ [((j, y) : Ix)] ++ out.drop a).flatMap ixL) := Row.app (enc := ixL) (ys := out.drop a) hownc (by simp) (flat_drop ixL_len out a)
              refine ws_l rfl rfl rfl rfl (rd_assign rfl) ?_
              refine ws_nil ?_
              refine qe_block ?_
              refine qe_then ?_
              refine wc_plain [(0, .x true), (1, .x true), (2, .x true)] (by kernel_rfl) ?_
              refine ws_l rfl rfl rfl rfl (rd_move rfl) ?_
              refine ws_l rfl rfl rfl rfl (rd_arith (((j + 1 : Nat) : Int)) rfl rfl rfl (by rw [wrap_i64 _ (by omega) (by omega)]; omega)) ?_
              refine ws_l rfl rfl rfl rfl (rd_assign rfl) ?_
              refine ws_nil ?_
              exact qe_loop fun ac2 w2 hs2 => ⟨_, by omega, j + 1, out.take a ++ [(j, y)] ++ out.drop a, vc, νc, rfl, (by simp only [cmpP] at h12; omega), (hrc), (by rw [ix_ins, take_at hy, List.filter_append]; simp only [List.filter_cons, hval, List.filter_nil, if_true]; exact (ins_at_perm _ y a).trans ((hpm.cons _).trans (List.perm_append_comm (l₁ := [y])))), (by rw [ix_ins]; exact ins_at_sorted (lt := fun a b => ordLt a b) (fun _ _ _ => ordLt_trans) ordLt_irrefl ordLt_nt hso (by simpa using ha) (hbb.imp id (fun ⟨q, h1, h2⟩ => ⟨q.2, by simp [h1], h2⟩)) (fun z hz => by rw [← List.map_drop] at hz; obtain ⟨q, hq, rfl⟩ := List.mem_map.1 hz; exact haf q hq)), (fun q hq => by simp only [List.mem_append, List.mem_singleton] at hq; rcases hq with (hq | rfl) | hq; exact hall q (List.mem_of_mem_take hq); exact hy; exact hall q (List.mem_of_mem_drop hq)), st_sub hs2 _ rfl⟩
          · intro h60
            have hbb : a = 0 ∨ ∃ q, out[a - 1]? = some q ∧ ¬ ordLt y q.2 := .inr ⟨q, hq, fun h => by simp only [cmpP] at h44 h60; rcases h with h | h; omega; exact h60 h.1⟩
            refine ws_r rfl rfl rfl rfl (rd_move rfl) ?_
            refine ws_rskip rfl rfl rfl rfl ?_
            refine ws_rskip rfl rfl rfl rfl ?_
            refine ws_rskip rfl rfl rfl rfl ?_
            refine ws_rskip rfl rfl rfl rfl ?_
            refine ws_rskip rfl rfl rfl rfl ?_
            refine ws_rskip rfl rfl rfl rfl ?_
            refine ws_rskip rfl rfl rfl rfl ?_
            refine ws_rskip rfl rfl rfl rfl ?_
            refine ws_rskip rfl rfl rfl rfl ?_
            refine ws_rskip rfl rfl rfl rfl ?_
            refine ws_rskip rfl rfl rfl rfl ?_
            refine ws_rskip rfl rfl rfl rfl ?_
            refine ws_rskip rfl rfl rfl rfl ?_
            refine ws_rskip rfl rfl rfl rfl ?_
            refine ws_xskip rfl rfl rfl rfl ?_
            refine ws_r rfl rfl rfl rfl (rd_pick_f rfl rfl) ?_
            refine ws_r rfl rfl rfl rfl (rd_pick_f rfl rfl) ?_
            refine ws_r rfl rfl rfl rfl (rd_pick_t rfl rfl) ?_
            refine ws_nil ?_
            refine qe_then ?_
            refine wc_false rfl ?_
            refine wc_exit ?_
            refine qe_then_exit ?_
            refine qe_then_exit ?_
            refine qe_block_exit ?_
            refine qe_then ?_
            refine wc_seq ?_
            refine wc_plain [(0, .x true), (1, .x true), (2, .x true), (3, .x true), (4, .x true), (5, .x true)] (by kernel_rfl) ?_
            refine ws_buildSlice rfl rfl rfl rfl ?_
            intro b82 hb82
            have hlit0 := OwnR.lit0 (E := 3) (k := 1) hb82
            refine ws_l rfl rfl rfl rfl (rd_move rfl) ?_
            refine ws_l rfl rfl rfl rfl (rd_move rfl) ?_
            obtain ⟨uu1, huu1, hsu1⟩ := OwnR.upto hown .i64 a ha Try.underlying66 Try.sizeOf3
            refine ws_l rfl rfl rfl rfl (rd_slice_h Try.underlying66 rfl rfl huu1) ?_
            refine ws_appendS rfl rfl rfl rfl rfl hlit0 (hsu1.mono (fun _ h => by first | (simp [h]; done) | (simp only [List.mem_append, List.mem_cons, List.not_mem_nil, or_false] at h ⊢; simp [h]))) (fun u hu => by have := List.mem_of_mem_take hu; obtain ⟨y, _, hy⟩ := List.mem_flatMap.1 this; exact ixL_one y u hy) (by simp only [maxLen]; omega) (by omega) (fun _ _ _ h => by first | (cases h; done) | (simp only [List.mem_append, List.mem_cons] at h ⊢; grind) | skip) ?_
            intro va νa howna
            have hra : OwnR w.heap.size 3 1 va νa (out.take a).length ((out.take a).flatMap ixL) := by first | (simpa [flat_take ixL_len, Nat.min_eq_left ha] using howna) | (rw [List.nil_append, flat_take ixL_len, Nat.zero_add] at howna; rw [List.length_take, Nat.min_eq_left ha]; exact howna)
            refine ws_l rfl rfl rfl rfl (rd_assign rfl) ?_
            refine ws_nil ?_
            refine qe_then ?_
            refine wc_seq ?_
            refine wc_plain [(0, .x true), (1, .x true), (2, .x true), (3, .x true), (4, .x true)] (by kernel_rfl) ?_
            refine ws_l rfl rfl rfl rfl (rd_move rfl) ?_
            refine ws_l rfl rfl rfl rfl (rd_move rfl) ?_
            refine ws_buildSlice rfl rfl rfl rfl ?_
            intro b89 hb89
            have hal : (out.take a).length = a := by rw [List.length_take]; omega
            refine ws_append rfl rfl rfl rfl rfl hra (by simp) (by simp [Value.oneCell']) (by simp only [maxLen]; omega) (by omega) (fun _ _ _ h => by first | (cases h; done) | (simp only [List.mem_append, List.mem_cons] at h ⊢; grind) | skip) ?_
            intro vb νb hownb
            have hrb : OwnR w.heap.size 3 1 vb νb (out.take a ++ [((j, y) : Ix)]).length ((out.take a ++ [((j, y) : Ix)]).flatMap ixL) := Row.app (enc := ixL) hownb rfl (by simp)
            refine ws_l rfl rfl rfl rfl (rd_assign rfl) ?_
            refine ws_nil ?_
            refine qe_then ?_
            refine wc_plain [(0, .x true), (1, .x true), (2, .x true), (3, .x true), (4, .x true), (5, .x true)] (by kernel_rfl) ?_
            refine ws_l rfl rfl rfl rfl (rd_move rfl) ?_
            refine ws_l rfl rfl rfl rfl (rd_move rfl) ?_
            refine ws_l rfl rfl rfl rfl (rd_move rfl) ?_
            obtain ⟨uu2, huu2, hsu2⟩ := OwnR.behind hown .i64 a ha Try.underlying66 Try.sizeOf3
            refine ws_l rfl rfl rfl rfl (rd_slice_l Try.underlying66 rfl rfl huu2) ?_
            refine ws_appendS rfl rfl rfl rfl rfl hrb (hsu2.mono (fun _ h => by first | (simp [h]; done) | (simp only [List.mem_append, List.mem_cons, List.not_mem_nil, or_false] at h ⊢; simp [h]))) (fun u hu => by have := List.mem_of_mem_drop hu; obtain ⟨y, _, hy⟩ := List.mem_flatMap.1 this; exact ixL_one y u hy) (by simp only [maxLen, List.length_append, hal, List.length_singleton]; omega) (by simp only [List.length_append, hal, List.length_singleton]; omega) (fun _ _ _ h => by first | (cases h; done) | (simp only [List.mem_append, List.mem_cons] at h ⊢; grind) | skip) ?_
            intro vc νc hownc
            have hrc : OwnR w.heap.size 3 1 vc νc (out.take a ++ [((j, y) : Ix)] ++ out.drop a).length ((out.take a ++ [((j, y) : Ix)] ++ out.drop a).flatMap ixL) := Row.app (enc := ixL) (ys := out.drop a) hownc (by simp) (flat_drop ixL_len out a)
            refine ws_l rfl rfl rfl rfl (rd_assign rfl) ?_
            refine ws_nil ?_
            refine qe_block ?_
            refine qe_then ?_
            refine wc_plain [(0, .x true), (1, .x true), (2, .x true)] (by kernel_rfl) ?_
            refine ws_l rfl rfl rfl rfl (rd_move rfl) ?_
            refine ws_l rfl rfl rfl rfl (rd_arith (((j + 1 : Nat) : Int)) rfl rfl rfl (by rw [wrap_i64 _ (by omega) (by omega)]; omega)) ?_
            refine ws_l rfl rfl rfl rfl (rd_assign rfl) ?_
            refine ws_nil ?_
            exact qe_loop fun ac2 w2 hs2 => ⟨_, by omega, j + 1, out.take a ++ [(j, y)] ++ out.drop a, vc, νc, rfl, (by simp only [cmpP] at h12; omega), (hrc), (by rw [ix_ins, take_at hy, List.filter_append]; simp only [List.filter_cons, hval, List.filter_nil, if_true]; exact (ins_at_perm _ y a).trans ((hpm.cons _).trans (List.perm_append_comm (l₁ := [y])))), (by rw [ix_ins]; exact ins_at_sorted (lt := fun a b => ordLt a b) (fun _ _ _ => ordLt_trans) ordLt_irrefl ordLt_nt hso (by simpa using ha) (hbb.imp id (fun ⟨q, h1, h2⟩ => ⟨q.2, by simp [h1], h2⟩)) (fun z hz => by rw [← List.map_drop] at hz; obtain ⟨q, hq, rfl⟩ := List.mem_map.1 hz; exact haf q hq)), (fun q hq => by simp only [List.mem_append, List.mem_singleton] at hq; rcases hq with (hq | rfl) | hq; exact hall q (List.mem_of_mem_take hq); exact hy; exact hall q (List.mem_of_mem_drop hq)), st_sub hs2 _ rfl⟩
      · intro h28
        have hbb : a = 0 ∨ ∃ q, out[a - 1]? = some q ∧ ¬ ordLt y q.2 := .inl (by simp only [cmpP] at h28; omega)
        refine ws_r rfl rfl rfl rfl (rd_move rfl) ?_
        refine ws_rskip rfl rfl rfl rfl ?_
        refine ws_rskip rfl rfl rfl rfl ?_
        refine ws_rskip rfl rfl rfl rfl ?_
        refine ws_rskip rfl rfl rfl rfl ?_
        refine ws_rskip rfl rfl rfl rfl ?_
        refine ws_rskip rfl rfl rfl rfl ?_
        refine ws_rskip rfl rfl rfl rfl ?_
        refine ws_rskip rfl rfl rfl rfl ?_
        refine ws_rskip rfl rfl rfl rfl ?_
        refine ws_rskip rfl rfl rfl rfl ?_
        refine ws_rskip rfl rfl rfl rfl ?_
        refine ws_rskip rfl rfl rfl rfl ?_
        refine ws_rskip rfl rfl rfl rfl ?_
        refine ws_rskip rfl rfl rfl rfl ?_
        refine ws_rskip rfl rfl rfl rfl ?_
        refine ws_rskip rfl rfl rfl rfl ?_
        refine ws_rskip rfl rfl rfl rfl ?_
        refine ws_rskip rfl rfl rfl rfl ?_
        refine ws_rskip rfl rfl rfl rfl ?_
        refine ws_rskip rfl rfl rfl rfl ?_
        refine ws_rskip rfl rfl rfl rfl ?_
        refine ws_rskip rfl rfl rfl rfl ?_
        refine ws_rskip rfl rfl rfl rfl ?_
        refine ws_rskip rfl rfl rfl rfl ?_
        refine ws_rskip rfl rfl rfl rfl ?_
        refine ws_rskip rfl rfl rfl rfl ?_
        refine ws_rskip rfl rfl rfl rfl ?_
        refine ws_rskip rfl rfl rfl rfl ?_
        refine ws_rskip rfl rfl rfl rfl ?_
        refine ws_rskip rfl rfl rfl rfl ?_
        refine ws_rskip rfl rfl rfl rfl ?_
        refine ws_rskip rfl rfl rfl rfl ?_
        refine ws_rskip rfl rfl rfl rfl ?_
        refine ws_rskip rfl rfl rfl rfl ?_
        refine ws_rskip rfl rfl rfl rfl ?_
        refine ws_rskip rfl rfl rfl rfl ?_
        refine ws_rskip rfl rfl rfl rfl ?_
        refine ws_rskip rfl rfl rfl rfl ?_
        refine ws_rskip rfl rfl rfl rfl ?_
        refine ws_rskip rfl rfl rfl rfl ?_
        refine ws_rskip rfl rfl rfl rfl ?_
        refine ws_rskip rfl rfl rfl rfl ?_
        refine ws_rskip rfl rfl rfl rfl ?_
        refine ws_rskip rfl rfl rfl rfl ?_
        refine ws_rskip rfl rfl rfl rfl ?_
        refine ws_rskip rfl rfl rfl rfl ?_
        refine ws_xskip rfl rfl rfl rfl ?_
        refine ws_rskip rfl rfl rfl rfl ?_
        refine ws_rskip rfl rfl rfl rfl ?_
        refine ws_r rfl rfl rfl rfl (rd_pick_f rfl rfl) ?_
        refine ws_nil ?_
        refine qe_then ?_
        refine wc_false rfl ?_
        refine wc_exit ?_
        refine qe_then_exit ?_
        refine qe_then_exit ?_
        refine qe_block_exit ?_
        refine qe_then ?_
        refine wc_seq ?_
        refine wc_plain [(0, .x true), (1, .x true), (2, .x true), (3, .x true), (4, .x true), (5, .x true)] (by kernel_rfl) ?_
        refine ws_buildSlice rfl rfl rfl rfl ?_
        intro b82 hb82
        have hlit0 := OwnR.lit0 (E := 3) (k := 1) hb82
        refine ws_l rfl rfl rfl rfl (rd_move rfl) ?_
        refine ws_l rfl rfl rfl rfl (rd_move rfl) ?_
        obtain ⟨uu1, huu1, hsu1⟩ := OwnR.upto hown .i64 a ha Try.underlying66 Try.sizeOf3
        refine ws_l rfl rfl rfl rfl (rd_slice_h Try.underlying66 rfl rfl huu1) ?_
        refine ws_appendS rfl rfl rfl rfl rfl hlit0 (hsu1.mono (fun _ h => by first | (simp [h]; done) | (simp only [List.mem_append, List.mem_cons, List.not_mem_nil, or_false] at h ⊢; simp [h]))) (fun u hu => by have := List.mem_of_mem_take hu; obtain ⟨y, _, hy⟩ := List.mem_flatMap.1 this; exact ixL_one y u hy) (by simp only [maxLen]; omega) (by omega) (fun _ _ _ h => by first | (cases h; done) | (simp only [List.mem_append, List.mem_cons] at h ⊢; grind) | skip) ?_
        intro va νa howna
        have hra : OwnR w.heap.size 3 1 va νa (out.take a).length ((out.take a).flatMap ixL) := by first | (simpa [flat_take ixL_len, Nat.min_eq_left ha] using howna) | (rw [List.nil_append, flat_take ixL_len, Nat.zero_add] at howna; rw [List.length_take, Nat.min_eq_left ha]; exact howna)
        refine ws_l rfl rfl rfl rfl (rd_assign rfl) ?_
        refine ws_nil ?_
        refine qe_then ?_
        refine wc_seq ?_
        refine wc_plain [(0, .x true), (1, .x true), (2, .x true), (3, .x true), (4, .x true)] (by kernel_rfl) ?_
        refine ws_l rfl rfl rfl rfl (rd_move rfl) ?_
        refine ws_l rfl rfl rfl rfl (rd_move rfl) ?_
        refine ws_buildSlice rfl rfl rfl rfl ?_
        intro b89 hb89
        have hal : (out.take a).length = a := by rw [List.length_take]; omega
        refine ws_append rfl rfl rfl rfl rfl hra (by simp) (by simp [Value.oneCell']) (by simp only [maxLen]; omega) (by omega) (fun _ _ _ h => by first | (cases h; done) | (simp only [List.mem_append, List.mem_cons] at h ⊢; grind) | skip) ?_
        intro vb νb hownb
        have hrb : OwnR w.heap.size 3 1 vb νb (out.take a ++ [((j, y) : Ix)]).length ((out.take a ++ [((j, y) : Ix)]).flatMap ixL) := Row.app (enc := ixL) hownb rfl (by simp)
        refine ws_l rfl rfl rfl rfl (rd_assign rfl) ?_
        refine ws_nil ?_
        refine qe_then ?_
        refine wc_plain [(0, .x true), (1, .x true), (2, .x true), (3, .x true), (4, .x true), (5, .x true)] (by kernel_rfl) ?_
        refine ws_l rfl rfl rfl rfl (rd_move rfl) ?_
        refine ws_l rfl rfl rfl rfl (rd_move rfl) ?_
        refine ws_l rfl rfl rfl rfl (rd_move rfl) ?_
        obtain ⟨uu2, huu2, hsu2⟩ := OwnR.behind hown .i64 a ha Try.underlying66 Try.sizeOf3
        refine ws_l rfl rfl rfl rfl (rd_slice_l Try.underlying66 rfl rfl huu2) ?_
        refine ws_appendS rfl rfl rfl rfl rfl hrb (hsu2.mono (fun _ h => by first | (simp [h]; done) | (simp only [List.mem_append, List.mem_cons, List.not_mem_nil, or_false] at h ⊢; simp [h]))) (fun u hu => by have := List.mem_of_mem_drop hu; obtain ⟨y, _, hy⟩ := List.mem_flatMap.1 this; exact ixL_one y u hy) (by simp only [maxLen, List.length_append, hal, List.length_singleton]; omega) (by simp only [List.length_append, hal, List.length_singleton]; omega) (fun _ _ _ h => by first | (cases h; done) | (simp only [List.mem_append, List.mem_cons] at h ⊢; grind) | skip) ?_
        intro vc νc hownc
        have hrc : OwnR w.heap.size 3 1 vc νc (out.take a ++ [((j, y) : Ix)] ++ out.drop a).length ((out.take a ++ [((j, y) : Ix)] ++ out.drop a).flatMap ixL) := Row.app (enc := ixL) (ys := out.drop a) hownc (by simp) (flat_drop ixL_len out a)
        refine ws_l rfl rfl rfl rfl (rd_assign rfl) ?_
        refine ws_nil ?_
        refine qe_block ?_
        refine qe_then ?_
        refine wc_plain [(0, .x true), (1, .x true), (2, .x true)] (by kernel_rfl) ?_
        refine ws_l rfl rfl rfl rfl (rd_move rfl) ?_
        refine ws_l rfl rfl rfl rfl (rd_arith (((j + 1 : Nat) : Int)) rfl rfl rfl (by rw [wrap_i64 _ (by omega) (by omega)]; omega)) ?_
        refine ws_l rfl rfl rfl rfl (rd_assign rfl) ?_
        refine ws_nil ?_
        exact qe_loop fun ac2 w2 hs2 => ⟨_, by omega, j + 1, out.take a ++ [(j, y)] ++ out.drop a, vc, νc, rfl, (by simp only [cmpP] at h12; omega), (hrc), (by rw [ix_ins, take_at hy, List.filter_append]; simp only [List.filter_cons, hval, List.filter_nil, if_true]; exact (ins_at_perm _ y a).trans ((hpm.cons _).trans (List.perm_append_comm (l₁ := [y])))), (by rw [ix_ins]; exact ins_at_sorted (lt := fun a b => ordLt a b) (fun _ _ _ => ordLt_trans) ordLt_irrefl ordLt_nt hso (by simpa using ha) (hbb.imp id (fun ⟨q, h1, h2⟩ => ⟨q.2, by simp [h1], h2⟩)) (fun z hz => by rw [← List.map_drop] at hz; obtain ⟨q, hq, rfl⟩ := List.mem_map.1 hz; exact haf q hq)), (fun q hq => by simp only [List.mem_append, List.mem_singleton] at hq; rcases hq with (hq | rfl) | hq; exact hall q (List.mem_of_mem_take hq); exact hy; exact hall q (List.mem_of_mem_drop hq)), st_sub hs2 _ rfl⟩
    · intro hval
      refine ws_l rfl rfl rfl rfl (rd_not rfl) ?_
      refine ws_nil ?_
      refine qe_then ?_
      refine wc_true rfl ?_
      refine wc_exit ?_
      refine qe_then_exit ?_
      refine qe_block_exit ?_
      refine qe_then ?_
      refine wc_plain [(0, .x true), (1, .x true), (2, .x true)] (by kernel_rfl) ?_
      refine ws_l rfl rfl rfl rfl (rd_move rfl) ?_
      refine ws_l rfl rfl rfl rfl (rd_arith (((j + 1 : Nat) : Int)) rfl rfl rfl (by rw [wrap_i64 _ (by omega) (by omega)]; omega)) ?_
      refine ws_l rfl rfl rfl rfl (rd_assign rfl) ?_
      refine ws_nil ?_
      exact qe_loop fun ac2 w2 hs2 => ⟨_, by omega, j + 1, out, v5, ν5, rfl, (by simp only [cmpP] at h12; omega), (hown), (by rw [take_at hy, List.filter_append]; simpa [hval] using hpm), (hso), (hall), st_sub hs2 _ rfl⟩
  · intro h12
    refine ws_nil ?_
    refine qe_then ?_
    refine wc_false rfl ?_
    refine wc_exit ?_
    refine qe_then_exit ?_
    refine qe_then_exit ?_
    refine qe_block_exit ?_
    refine qe_then ?_
    refine wc_keep [(5, _)] rfl ?_
    refine wc_seq ?_
    refine wc_plain [(0, .x true), (1, .x true)] (by kernel_rfl) ?_
    refine ws_l rfl rfl rfl rfl (rd_move rfl) ?_
    refine ws_l rfl rfl rfl rfl (rd_assign rfl) ?_
    refine ws_nil ?_
    refine qe_then ?_
    refine wc_ret ?_
    refine qe_body _ (.inl rfl) (res1 rfl (RV.tmp rfl)) ?_
    rw [List.take_of_length_le (by simp only [cmpP] at h12; omega)] at hpm
    obtain ⟨gv, rfl, -⟩ := OwnR.gv hown
    exact ret_end fun w hp hn ho => ⟨out, gv, ν5, rfl, hown, (hp.mono SubH.mem), sortR_unique (filter_nd hn0 _) hpm hso, hall⟩

end Go.Proofs.Ytaagmgpfpaanlaa
