/- Walk: the reference's Ids. No conditions. -/
import Derived.Test.YtaagmgpfpaanlaaW9
namespace Go.Proofs.Ytaagmgpfpaanlaa
open Go Go.RowKit Go.Sx
set_option linter.unusedSimpArgs false
set_option linter.unusedVariables false

theorem ids_get37 {cur : Array Value} {zs : List Id} (hcur : ∀ i, i < zs.length * 32 → cur[i]? = (idsL zs)[i]?) {j : Nat} {x : Id} (hx : zs[j]? = some x) : ReadsAt Try.prog 37 cur (j * 32) (idK x) :=
  ReadsAt.agg (k := 32) (idC_size _) (fun t ht => by
    have hj := (List.getElem?_eq_some_iff.1 hx).1
    rw [hcur _ (by omega), flat_at idL_len zs j t x hx ht]; simp)
set_option maxRecDepth 100000 in
set_option maxHeartbeats 1000000 in
theorem ids_ref (v : Value) (φ : Heap) (l : List RR) (hsrc : Src φ v 82 l.length (l.flatMap rrL)) (hlen : l.length < 1048576) (e : Bool) (w : World) (hφ : HpOK φ w) (hnd : (φ.map Prod.fst).Nodup) : Ret Try.prog 18 [v, .bool e] w [] (fun u w' => ∃ (g' : GV) (ν' : Heap), u = g'.v ∧ OwnR w.heap.size 37 32 g'.v ν' (idsR l e).length (idsL (idsR l e)) ∧ HpOK ν' w') := by
  refine enter (n := 58) (args := [v, .bool e]) [] φ Try.func18 rfl rfl rfl hφ hnd ?_
  refine wc_seq ?_
  refine wc_plain [(0, .x true)] (by kernel_rfl) ?_
  refine ws_l rfl rfl rfl rfl (rd_assign rfl) ?_
  refine ws_nil ?_
  refine qe_then ?_
  refine wc_seq ?_
  refine wc_plain [(0, .x true)] (by kernel_rfl) ?_
  refine ws_l rfl rfl rfl rfl (rd_assign rfl) ?_
  refine ws_nil ?_
  refine qe_then ?_
  refine wc_seq ?_
  refine wc_seq ?_
  refine wc_plain [(0, .x true)] (by kernel_rfl) ?_
  refine ws_l rfl rfl rfl rfl (rd_assign rfl) ?_
  refine ws_nil ?_
  refine qe_then ?_
  refine wc_block ?_
  refine wc_loop (fun mz ac w1 => ∃ (j : Nat) (out : List Id) (v5 : Value) (ν5 : Heap), mz = l.length - j ∧ (j ≤ l.length) ∧ (OwnR w.heap.size 37 32 v5 ν5 out.length (idsL out)) ∧ (out.Perm (((l.take j).filter (fun x => (!ndB l x) == e)).map RR.id)) ∧ (out.Pairwise (fun a b => ¬ idLt b a)) ∧ St 58 w [] [(0, v), (1, .bool e), (5, v5), (6, I j)] (ν5 ++ φ) ac w1) _ (fun ac w1 hs => ⟨0, [], .slice none 0 0, [], rfl, (by omega), (OwnR.nil _ _ _), (by simp), (List.Pairwise.nil), st_sub hs _ rfl⟩) ?_
  rintro _ ac1 wl1 ⟨j, out, v5, ν5, rfl, hj, hown, hpm, hso, hs1⟩
  refine wc_at hs1 ?_
  refine wc_seq ?_
  refine wc_seq ?_
  refine wc_plain [(0, .x true), (1, .x true), (2, .x true), (3, .x true)] (by kernel_rfl) ?_
  refine ws_l rfl rfl rfl rfl (rd_move rfl) ?_
  refine ws_l rfl rfl rfl rfl (rd_move rfl) ?_
  refine ws_l rfl rfl rfl rfl (rd_lenS hsrc rfl Try.underlying22) ?_
  refine ws_lcmp rfl rfl rfl (rfl) (rfl) (rfl) ?_ ?_
  · intro h12
    refine ws_nil ?_
    refine qe_then ?_
    refine wc_true rfl ?_
    refine wc_skip ?_
    refine qe_then ?_
    refine wc_seq ?_
    refine wc_block ?_
    refine wc_seq ?_
    refine wc_seq ?_
    refine wc_plain [(0, .x true), (1, .x true), (2, .x true), (3, .x true), (4, .x true)] (by kernel_rfl) ?_
    refine ws_l rfl rfl rfl rfl (rd_move rfl) ?_
    refine ws_l rfl rfl rfl rfl (rd_move rfl) ?_
    obtain ⟨x, hx⟩ := at_ex (l := l) (j := j) (by omega)
    refine ws_callp rfl rfl rfl rfl rfl (En.go) (fun w hp hn ho => isend_ref _ φ l hsrc hlen j x hx w (hp.mono SubH.mem) hnd) ?_
    refine ws_l rfl rfl rfl rfl (rd_move rfl) ?_
    refine ws_lp _ rfl rfl rfl rfl (rd_bneD rfl rfl Try.underlying4) ?_ ?_
    · intro h19
      have hfx : ((!ndB l x) == e) = false := by cases hb : ndB l x <;> cases e <;> simp_all
      refine ws_nil ?_
      refine qe_then ?_
      refine wc_true rfl ?_
      refine wc_exit ?_
      refine qe_then_exit ?_
      refine qe_block_exit ?_
      refine qe_then ?_
      refine wc_plain [(0, .x true), (1, .x true), (2, .x true)] (by kernel_rfl) ?_
      refine ws_l rfl rfl rfl rfl (rd_move rfl) ?_
      refine ws_l rfl rfl rfl rfl (rd_arith (((j + 1 : Nat) : Int)) rfl rfl rfl (by rw [wrap_i64 _ (by omega) (by omega)]; omega)) ?_
      refine ws_l rfl rfl rfl rfl (rd_assign rfl) ?_
      refine ws_nil ?_
      exact qe_loop fun ac2 w2 hs2 => ⟨_, by omega, j + 1, out, v5, ν5, rfl, (by omega), (hown), (by rw [take_at hx, List.filter_append]; simpa [hfx] using hpm), (hso), st_sub hs2 _ rfl⟩
    · intro h19
      have hfx : ((!ndB l x) == e) = true := by cases hb : ndB l x <;> cases e <;> simp_all
      refine ws_nil ?_
      refine qe_then ?_
      refine wc_false rfl ?_
      refine wc_skip ?_
      refine qe_then ?_
      refine wc_seq ?_
      refine wc_plain [(0, .x true), (1, .x true), (2, .x true)] (by kernel_rfl) ?_
      refine ws_l rfl rfl rfl rfl (rd_move rfl) ?_
      refine ws_l rfl rfl rfl rfl (rd_lenO hown rfl Try.underlying34) ?_
      refine ws_l rfl rfl rfl rfl (rd_assign rfl) ?_
      refine ws_nil ?_
      refine qe_then ?_
      refine wc_seq ?_
      refine wc_block ?_
      refine wc_loop (fun mz ac w1 => ∃ (a : Nat), mz = a * 2 ∧ (a ≤ out.length) ∧ (∀ y ∈ out.drop a, idLt x.id y) ∧ St 58 w [] [(0, v), (1, .bool e), (5, v5), (6, I j), (7, I a)] (ν5 ++ φ) ac w1) _ (fun ac w1 hs => ⟨out.length, rfl, (by omega), (by simp), st_sub hs _ rfl⟩) ?_
      rintro _ ac2 wl2 ⟨a, rfl, ha, haf, hs2⟩
      refine wc_at hs2 ?_
      have hol : out.length ≤ j := by have h1 := hpm.length_eq; have h2 := List.length_filter_le (fun x => (!ndB l x) == e) (l.take j); rw [List.length_map] at h1; rw [List.length_take] at h2; omega
      refine wc_seq ?_
      refine wc_seq ?_
      refine wc_drawn mixedT _ (fun _ h => h) [(0, .r), (1, .r), (2, .r), (3, .r), (4, .r), (5, .r), (6, .r), (7, .r), (8, .r), (9, .r), (10, .r), (11, .r), (12, .r), (13, .x true), (14, .x true)] (by kernel_rfl) ?_
      refine ws_r rfl rfl rfl rfl (rd_move rfl) ?_
      refine ws_rcmp rfl rfl rfl (rfl) (rfl) (rfl) ?_ ?_
      · intro h23
        refine ws_r rfl rfl rfl rfl (rd_move rfl) ?_
        refine ws_r rfl rfl rfl rfl (rd_move rfl) ?_
        refine ws_r rfl rfl rfl rfl (rd_move rfl) ?_
        obtain ⟨bv, ov, cv, csv, Ev, frv, rfl, hmv, hcv⟩ := Src.opened hsrc (by omega)
        have hmiv : HM bv (.cells csv Ev frv) φ := ⟨hmv⟩
        have atx : AtR csv (ov + j * 82) x := at_r hcv hx
        refine ws_r rfl rfl rfl rfl (rd_index (ov + j * 82) rfl rfl Try.underlying22 Try.sizeOf46 ⟨by omega, by omega⟩ (by simp)) ?_
        refine ws_r rfl rfl rfl rfl (rd_fieldAddr rfl) ?_
        refine ws_r rfl rfl rfl rfl (rd_load rfl) ?_
        refine ws_r rfl rfl rfl rfl (rd_move rfl) ?_
        refine ws_r rfl rfl rfl rfl (rd_move rfl) ?_
        refine ws_r rfl rfl rfl rfl (rd_arith ((a - 1 : Nat) : Int) rfl rfl rfl (by rw [wrap_i64 _ (by omega) (by omega)]; omega)) ?_
        obtain ⟨qo, capo, curo, rfl, rfl, hqo, hcapo, hcuro⟩ := OwnR.opened hown (by omega)
        obtain ⟨y, hy⟩ := at_ex (l := out) (j := a - 1) (by omega)
        have aty : ReadsAt Try.prog 37 curo ((a - 1) * 32) (idK y) := ids_get37 hcuro hy
        refine ws_r rfl rfl rfl rfl (rd_ix rfl rfl Try.underlying34 Try.sizeOf37 (by omega)) ?_
        refine ws_r rfl rfl rfl rfl (rd_load rfl) ?_
        refine ws_late rfl ?_
        refine ws_callb (decide _) rfl rfl rfl rfl rfl (En.go) (fun w hp hn ho => before_ref x.id y w) ?_ ?_
        · intro hlt
          have hlt := of_decide_eq_true hlt
          refine ws_l rfl rfl rfl rfl (rd_pick_t rfl rfl) ?_
          refine ws_nil ?_
          refine qe_then ?_
          refine wc_true rfl ?_
          refine wc_skip ?_
          refine qe_then ?_
          refine wc_block ?_
          refine wc_plain [(0, .x true), (1, .x true), (2, .x true)] (by kernel_rfl) ?_
          refine ws_l rfl rfl rfl rfl (rd_move rfl) ?_
          refine ws_l rfl rfl rfl rfl (rd_arith ((a - 1 : Nat) : Int) rfl rfl rfl (by rw [wrap_i64 _ (by omega) (by omega)]; omega)) ?_
          refine ws_l rfl rfl rfl rfl (rd_assign rfl) ?_
          refine ws_nil ?_
          refine qe_block ?_
          exact qe_loop fun ac2 w2 hs2 => ⟨_, by omega, a - 1, rfl, (by omega), (by rw [drop_at hy, show a - 1 + 1 = a by omega]; intro z hz; rcases List.mem_cons.1 hz with rfl | hz; exact hlt; exact haf z hz), st_sub hs2 _ rfl⟩
        · intro hlt
          have hlt := of_decide_eq_false hlt
          have hbb : a = 0 ∨ ∃ y, out[a - 1]? = some y ∧ ¬ idLt x.id y := .inr ⟨y, hy, hlt⟩
          refine ws_l rfl rfl rfl rfl (rd_pick_t rfl rfl) ?_
          refine ws_nil ?_
          refine qe_then ?_
          refine wc_false rfl ?_
          refine wc_exit ?_
          refine qe_then_exit ?_
          refine qe_then_exit ?_
          refine qe_block_exit ?_
          refine qe_then ?_
          refine wc_seq ?_
          refine wc_plain [(0, .x true), (1, .x true), (2, .x true), (3, .x true), (4, .x true), (5, .x true)] (by kernel_rfl) ?_
          refine ws_buildSlice rfl rfl rfl rfl ?_
          intro b39 hb39
          have hlit0 := OwnR.lit0 (E := 37) (k := 32) hb39
          refine ws_l rfl rfl rfl rfl (rd_move rfl) ?_
          refine ws_l rfl rfl rfl rfl (rd_move rfl) ?_
          obtain ⟨uu1, huu1, hsu1⟩ := OwnR.upto hown .i64 a ha Try.underlying34 Try.sizeOf37
          refine ws_l rfl rfl rfl rfl (rd_slice_h Try.underlying34 rfl rfl huu1) ?_
          refine ws_appendS rfl rfl rfl rfl rfl hlit0 (hsu1.mono (fun _ h => by first | (simp [h]; done) | (simp only [List.mem_append, List.mem_cons, List.not_mem_nil, or_false] at h ⊢; simp [h]))) (fun u hu => by have := List.mem_of_mem_take hu; obtain ⟨y, _, hy⟩ := List.mem_flatMap.1 this; exact idL_one y u hy) (by simp only [maxLen]; omega) (by omega) (fun _ _ _ h => by first | (cases h; done) | (simp only [List.mem_append, List.mem_cons] at h ⊢; grind) | skip) ?_
          intro va νa howna
          have hra : OwnR w.heap.size 37 32 va νa (out.take a).length ((out.take a).flatMap idL) := by simpa [flat_take idL_len, Nat.min_eq_left ha] using howna
          refine ws_l rfl rfl rfl rfl (rd_assign rfl) ?_
          refine ws_nil ?_
          refine qe_then ?_
          refine wc_seq ?_
          refine wc_plain [(0, .x true), (1, .x true), (2, .x true), (3, .x true), (4, .x true), (5, .x true), (6, .x true), (7, .x true), (8, .x true)] (by kernel_rfl) ?_
          refine ws_l rfl rfl rfl rfl (rd_move rfl) ?_
          refine ws_l rfl rfl rfl rfl (rd_move rfl) ?_
          refine ws_l rfl rfl rfl rfl (rd_move rfl) ?_
          refine ws_l rfl rfl rfl rfl (rd_index (ov + j * 82) rfl rfl Try.underlying22 Try.sizeOf46 ⟨by omega, by omega⟩ (by simp)) ?_
          refine ws_l rfl rfl rfl rfl (rd_fieldAddr rfl) ?_
          refine ws_l rfl rfl rfl rfl (rd_load rfl) ?_
          refine ws_buildSlice rfl rfl rfl rfl ?_
          intro b50 hb50
          have hal : (out.take a).length = a := by rw [List.length_take]; omega
          refine ws_append rfl rfl rfl rfl rfl hra (by simp [idC_size]) (idC_one _) (by simp only [maxLen]; omega) (by omega) (fun _ _ _ h => by first | (cases h; done) | (simp only [List.mem_append, List.mem_cons] at h ⊢; grind) | skip) ?_
          intro vb νb hownb
          have hrb : OwnR w.heap.size 37 32 vb νb (out.take a ++ [x.id]).length ((out.take a ++ [x.id]).flatMap idL) := Row.app (enc := idL) hownb rfl (by simp)
          refine ws_l rfl rfl rfl rfl (rd_assign rfl) ?_
          refine ws_nil ?_
          refine qe_then ?_
          refine wc_plain [(0, .x true), (1, .x true), (2, .x true), (3, .x true), (4, .x true), (5, .x true)] (by kernel_rfl) ?_
          refine ws_l rfl rfl rfl rfl (rd_move rfl) ?_
          refine ws_l rfl rfl rfl rfl (rd_move rfl) ?_
          refine ws_l rfl rfl rfl rfl (rd_move rfl) ?_
          obtain ⟨uu2, huu2, hsu2⟩ := OwnR.behind hown .i64 a ha Try.underlying34 Try.sizeOf37
          refine ws_l rfl rfl rfl rfl (rd_slice_l Try.underlying34 rfl rfl huu2) ?_
          refine ws_appendS rfl rfl rfl rfl rfl hrb (hsu2.mono (fun _ h => by first | (simp [h]; done) | (simp only [List.mem_append, List.mem_cons, List.not_mem_nil, or_false] at h ⊢; simp [h]))) (fun u hu => by have := List.mem_of_mem_drop hu; obtain ⟨y, _, hy⟩ := List.mem_flatMap.1 this; exact idL_one y u hy) (by simp only [maxLen, List.length_append, hal, List.length_singleton]; omega) (by simp only [List.length_append, hal, List.length_singleton]; omega) (fun _ _ _ h => by first | (cases h; done) | (simp only [List.mem_append, List.mem_cons] at h ⊢; grind) | skip) ?_
          intro vc νc hownc
          have hrc : OwnR w.heap.size 37 32 vc νc (out.take a ++ [x.id] ++ out.drop a).length ((out.take a ++ [x.id] ++ out.drop a).flatMap idL) := Row.app (enc := idL) (ys := out.drop a) hownc (by simp) (flat_drop idL_len out a)
          refine ws_l rfl rfl rfl rfl (rd_assign rfl) ?_
          refine ws_nil ?_
          refine qe_block ?_
          refine qe_then ?_
          refine wc_plain [(0, .x true), (1, .x true), (2, .x true)] (by kernel_rfl) ?_
          refine ws_l rfl rfl rfl rfl (rd_move rfl) ?_
          refine ws_l rfl rfl rfl rfl (rd_arith (((j + 1 : Nat) : Int)) rfl rfl rfl (by rw [wrap_i64 _ (by omega) (by omega)]; omega)) ?_
          refine ws_l rfl rfl rfl rfl (rd_assign rfl) ?_
          refine ws_nil ?_
          exact qe_loop fun ac2 w2 hs2 => ⟨_, by omega, j + 1, out.take a ++ [x.id] ++ out.drop a, vc, νc, rfl, (by omega), (hrc), (by rw [take_at hx, List.filter_append, List.map_append]; simp only [List.filter_cons, hfx, List.filter_nil, if_true, List.map_cons, List.map_nil]; rw [List.append_assoc, List.singleton_append]; exact (ins_at_perm out x.id a).trans ((hpm.cons _).trans (List.perm_append_comm (l₁ := [x.id])))), (by rw [List.append_assoc, List.singleton_append]; exact ins_at_sorted (lt := fun a b => idLt a b) (fun _ _ _ => idLt_trans) idLt_irrefl idLt_nt hso ha hbb haf), st_sub hs2 _ rfl⟩
      · intro h23
        have hbb : a = 0 ∨ ∃ y, out[a - 1]? = some y ∧ ¬ idLt x.id y := .inl (by simp only [cmpP] at h23; omega)
        refine ws_r rfl rfl rfl rfl (rd_move rfl) ?_
        refine ws_rskip rfl rfl rfl rfl ?_
        refine ws_rskip rfl rfl rfl rfl ?_
        refine ws_rskip rfl rfl rfl rfl ?_
        refine ws_rskip rfl rfl rfl rfl ?_
        refine ws_rskip rfl rfl rfl rfl ?_
        refine ws_rskip rfl rfl rfl rfl ?_
        refine ws_rskip rfl rfl rfl rfl ?_
        refine ws_rskip rfl rfl rfl rfl ?_
        refine ws_rskip rfl rfl rfl rfl ?_
        refine ws_rskip rfl rfl rfl rfl ?_
        refine ws_late rfl ?_
        refine ws_xskip rfl rfl rfl rfl ?_
        refine ws_l rfl rfl rfl rfl (rd_pick_f rfl rfl) ?_
        refine ws_nil ?_
        refine qe_then ?_
        refine wc_false rfl ?_
        refine wc_exit ?_
        refine qe_then_exit ?_
        refine qe_then_exit ?_
        refine qe_block_exit ?_
        refine qe_then ?_
        refine wc_seq ?_
        refine wc_plain [(0, .x true), (1, .x true), (2, .x true), (3, .x true), (4, .x true), (5, .x true)] (by kernel_rfl) ?_
        refine ws_buildSlice rfl rfl rfl rfl ?_
        intro b39 hb39
        have hlit0 := OwnR.lit0 (E := 37) (k := 32) hb39
        refine ws_l rfl rfl rfl rfl (rd_move rfl) ?_
        refine ws_l rfl rfl rfl rfl (rd_move rfl) ?_
        obtain ⟨uu1, huu1, hsu1⟩ := OwnR.upto hown .i64 a ha Try.underlying34 Try.sizeOf37
        refine ws_l rfl rfl rfl rfl (rd_slice_h Try.underlying34 rfl rfl huu1) ?_
        refine ws_appendS rfl rfl rfl rfl rfl hlit0 (hsu1.mono (fun _ h => by first | (simp [h]; done) | (simp only [List.mem_append, List.mem_cons, List.not_mem_nil, or_false] at h ⊢; simp [h]))) (fun u hu => by have := List.mem_of_mem_take hu; obtain ⟨y, _, hy⟩ := List.mem_flatMap.1 this; exact idL_one y u hy) (by simp only [maxLen]; omega) (by omega) (fun _ _ _ h => by first | (cases h; done) | (simp only [List.mem_append, List.mem_cons] at h ⊢; grind) | skip) ?_
        intro va νa howna
        have hra : OwnR w.heap.size 37 32 va νa (out.take a).length ((out.take a).flatMap idL) := by simpa [flat_take idL_len, Nat.min_eq_left ha] using howna
        refine ws_l rfl rfl rfl rfl (rd_assign rfl) ?_
        refine ws_nil ?_
        refine qe_then ?_
        refine wc_seq ?_
        refine wc_plain [(0, .x true), (1, .x true), (2, .x true), (3, .x true), (4, .x true), (5, .x true), (6, .x true), (7, .x true), (8, .x true)] (by kernel_rfl) ?_
        refine ws_l rfl rfl rfl rfl (rd_move rfl) ?_
        refine ws_l rfl rfl rfl rfl (rd_move rfl) ?_
        refine ws_l rfl rfl rfl rfl (rd_move rfl) ?_
        obtain ⟨bv, ov, cv, csv, Ev, frv, rfl, hmv, hcv⟩ := Src.opened hsrc (by omega)
        have hmiv : HM bv (.cells csv Ev frv) φ := ⟨hmv⟩
        have atx : AtR csv (ov + j * 82) x := at_r hcv hx
        refine ws_l rfl rfl rfl rfl (rd_index (ov + j * 82) rfl rfl Try.underlying22 Try.sizeOf46 ⟨by omega, by omega⟩ (by simp)) ?_
        refine ws_l rfl rfl rfl rfl (rd_fieldAddr rfl) ?_
        refine ws_l rfl rfl rfl rfl (rd_load rfl) ?_
        refine ws_buildSlice rfl rfl rfl rfl ?_
        intro b50 hb50
        have hal : (out.take a).length = a := by rw [List.length_take]; omega
        refine ws_append rfl rfl rfl rfl rfl hra (by simp [idC_size]) (idC_one _) (by simp only [maxLen]; omega) (by omega) (fun _ _ _ h => by first | (cases h; done) | (simp only [List.mem_append, List.mem_cons] at h ⊢; grind) | skip) ?_
        intro vb νb hownb
        have hrb : OwnR w.heap.size 37 32 vb νb (out.take a ++ [x.id]).length ((out.take a ++ [x.id]).flatMap idL) := Row.app (enc := idL) hownb rfl (by simp)
        refine ws_l rfl rfl rfl rfl (rd_assign rfl) ?_
        refine ws_nil ?_
        refine qe_then ?_
        refine wc_plain [(0, .x true), (1, .x true), (2, .x true), (3, .x true), (4, .x true), (5, .x true)] (by kernel_rfl) ?_
        refine ws_l rfl rfl rfl rfl (rd_move rfl) ?_
        refine ws_l rfl rfl rfl rfl (rd_move rfl) ?_
        refine ws_l rfl rfl rfl rfl (rd_move rfl) ?_
        obtain ⟨uu2, huu2, hsu2⟩ := OwnR.behind hown .i64 a ha Try.underlying34 Try.sizeOf37
        refine ws_l rfl rfl rfl rfl (rd_slice_l Try.underlying34 rfl rfl huu2) ?_
        refine ws_appendS rfl rfl rfl rfl rfl hrb (hsu2.mono (fun _ h => by first | (simp [h]; done) | (simp only [List.mem_append, List.mem_cons, List.not_mem_nil, or_false] at h ⊢; simp [h]))) (fun u hu => by have := List.mem_of_mem_drop hu; obtain ⟨y, _, hy⟩ := List.mem_flatMap.1 this; exact idL_one y u hy) (by simp only [maxLen, List.length_append, hal, List.length_singleton]; omega) (by simp only [List.length_append, hal, List.length_singleton]; omega) (fun _ _ _ h => by first | (cases h; done) | (simp only [List.mem_append, List.mem_cons] at h ⊢; grind) | skip) ?_
        intro vc νc hownc
        have hrc : OwnR w.heap.size 37 32 vc νc (out.take a ++ [x.id] ++ out.drop a).length ((out.take a ++ [x.id] ++ out.drop a).flatMap idL) := Row.app (enc := idL) (ys := out.drop a) hownc (by simp) (flat_drop idL_len out a)
        refine ws_l rfl rfl rfl rfl (rd_assign rfl) ?_
        refine ws_nil ?_
        refine qe_block ?_
        refine qe_then ?_
        refine wc_plain [(0, .x true), (1, .x true), (2, .x true)] (by kernel_rfl) ?_
        refine ws_l rfl rfl rfl rfl (rd_move rfl) ?_
        refine ws_l rfl rfl rfl rfl (rd_arith (((j + 1 : Nat) : Int)) rfl rfl rfl (by rw [wrap_i64 _ (by omega) (by omega)]; omega)) ?_
        refine ws_l rfl rfl rfl rfl (rd_assign rfl) ?_
        refine ws_nil ?_
        exact qe_loop fun ac2 w2 hs2 => ⟨_, by omega, j + 1, out.take a ++ [x.id] ++ out.drop a, vc, νc, rfl, (by omega), (hrc), (by rw [take_at hx, List.filter_append, List.map_append]; simp only [List.filter_cons, hfx, List.filter_nil, if_true, List.map_cons, List.map_nil]; rw [List.append_assoc, List.singleton_append]; exact (ins_at_perm out x.id a).trans ((hpm.cons _).trans (List.perm_append_comm (l₁ := [x.id])))), (by rw [List.append_assoc, List.singleton_append]; exact ins_at_sorted (lt := fun a b => idLt a b) (fun _ _ _ => idLt_trans) idLt_irrefl idLt_nt hso ha hbb haf), st_sub hs2 _ rfl⟩
  · intro h12
    refine ws_nil ?_
    refine qe_then ?_
    refine wc_false rfl ?_
    refine wc_exit ?_
    refine qe_then_exit ?_
    refine qe_then_exit ?_
    refine qe_block_exit ?_
    refine qe_then ?_
    refine wc_keep [(5, _)] rfl ?_
    refine wc_seq ?_
    refine wc_plain [(0, .x true), (1, .x true)] (by kernel_rfl) ?_
    refine ws_l rfl rfl rfl rfl (rd_move rfl) ?_
    refine ws_l rfl rfl rfl rfl (rd_assign rfl) ?_
    refine ws_nil ?_
    refine qe_then ?_
    refine wc_ret ?_
    refine qe_body _ (.inl rfl) (res1 rfl (RV.tmp rfl)) ?_
    rw [List.take_of_length_le (by omega)] at hpm
    have hid : out = idsR l e := sortI_unique hpm hso
    subst hid
    obtain ⟨gv, rfl, -⟩ := OwnR.gv hown
    exact ret_end fun w hp hn ho => ⟨gv, ν5, rfl, hown, (hp.mono SubH.mem)⟩

end Go.Proofs.Ytaagmgpfpaanlaa
