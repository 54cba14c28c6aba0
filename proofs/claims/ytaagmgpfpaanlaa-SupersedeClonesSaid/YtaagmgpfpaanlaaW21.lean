/- Walks: the reference: Add, Drop. No conditions. -/
import Derived.Test.YtaagmgpfpaanlaaPly
import Derived.Test.YtaagmgpfpaanlaaW17
import Derived.Test.YtaagmgpfpaanlaaW9
namespace Go.Proofs.Ytaagmgpfpaanlaa
open Go Go.RowKit Go.Sx
set_option linter.unusedSimpArgs false
set_option linter.unusedVariables false

set_option maxRecDepth 100000 in
set_option maxHeartbeats 1000000 in
theorem add_ref (base : Nat) (v : Value) (ν : Heap) (l : List RR) (hown : OwnR base 46 82 v ν l.length (l.flatMap rrL)) (hlen : l.length < 8192) (x : RR) (w : World) (hν : HpOK ν w) (hnd : (ν.map Prod.fst).Nodup) : Ret Try.prog 47 [v, rrK x] w [] (fun u w' => (addE l x = 0 ∧ ∃ (vc : Value) (νc : Heap), u = .tuple #[vc, I 0] ∧ OwnR w.heap.size 46 82 vc νc (addO l x).length ((addO l x).flatMap rrL) ∧ HpOK νc w') ∨ (addE l x ≠ 0 ∧ u = .tuple #[v, I (addE l x)])) := by
  refine enter (n := 31) (args := [v, rrK x]) [] ν Try.func47 rfl rfl rfl hν hnd ?_
  refine wc_seq ?_
  refine wc_plain [(0, .x true), (1, .x true), (2, .x true)] (by kernel_rfl) ?_
  refine ws_box rfl rfl rfl rfl ?_
  intro b3 hb3
  refine ws_l rfl rfl rfl rfl (rd_assign rfl) ?_
  refine ws_l rfl rfl rfl rfl (rd_assign rfl) ?_
  refine ws_nil ?_
  refine qe_then ?_
  refine wc_seq ?_
  refine wc_seq ?_
  refine wc_plain [(0, .x true), (1, .x true), (2, .x true), (3, .x true), (4, .x true), (5, .x true), (6, .x true), (7, .x true)] (by kernel_rfl) ?_
  refine ws_l rfl rfl rfl rfl (rd_fieldAddr rfl) ?_
  refine ws_l rfl rfl rfl rfl (rd_load rfl) ?_
  refine ws_lcmp rfl rfl rfl (rfl) (rfl) (rfl) ?_ ?_
  · intro h8
    have hdate : ¬ dateB x.date := fun h => by have := h.1; simp only [cmpP] at h8; omega
    refine ws_l rfl rfl rfl rfl (rd_move rfl) ?_
    refine ws_xskip rfl rfl rfl rfl ?_
    refine ws_xskip rfl rfl rfl rfl ?_
    refine ws_xskip rfl rfl rfl rfl ?_
    refine ws_l rfl rfl rfl rfl (rd_pick_t rfl rfl) ?_
    refine ws_nil ?_
    refine qe_then ?_
    refine wc_keep [(0, _), (3, _), (4, _), (5, _), (13, _)] rfl ?_
    refine wc_true rfl ?_
    refine wc_seq ?_
    refine wc_plain [(0, .x true), (1, .x true), (2, .x true)] (by kernel_rfl) ?_
    refine ws_l rfl rfl rfl rfl (rd_move rfl) ?_
    refine ws_l rfl rfl rfl rfl (rd_assign rfl) ?_
    refine ws_l rfl rfl rfl rfl (rd_assign rfl) ?_
    refine ws_nil ?_
    refine qe_then ?_
    refine wc_ret ?_
    refine qe_then_ret ?_
    refine qe_body _ (.inl rfl) (res2 rfl (RV.tmp rfl) (RV.tmp rfl)) ?_
    exact ret_end fun w hp hn ho => .inr ⟨by simp [addE, *], by simp [addE, *]⟩
  · intro h8
    refine ws_l rfl rfl rfl rfl (rd_move rfl) ?_
    refine ws_l rfl rfl rfl rfl (rd_fieldAddr rfl) ?_
    refine ws_l rfl rfl rfl rfl (rd_load rfl) ?_
    refine ws_lcmp rfl rfl rfl (rfl) (rfl) (rfl) ?_ ?_
    · intro h12
      have hdate : ¬ dateB x.date := fun h => by have := h.2; simp only [cmpP] at h12; omega
      refine ws_l rfl rfl rfl rfl (rd_pick_f rfl rfl) ?_
      refine ws_nil ?_
      refine qe_then ?_
      refine wc_keep [(0, _), (3, _), (4, _), (5, _), (13, _)] rfl ?_
      refine wc_true rfl ?_
      refine wc_seq ?_
      refine wc_plain [(0, .x true), (1, .x true), (2, .x true)] (by kernel_rfl) ?_
      refine ws_l rfl rfl rfl rfl (rd_move rfl) ?_
      refine ws_l rfl rfl rfl rfl (rd_assign rfl) ?_
      refine ws_l rfl rfl rfl rfl (rd_assign rfl) ?_
      refine ws_nil ?_
      refine qe_then ?_
      refine wc_ret ?_
      refine qe_then_ret ?_
      refine qe_body _ (.inl rfl) (res2 rfl (RV.tmp rfl) (RV.tmp rfl)) ?_
      exact ret_end fun w hp hn ho => .inr ⟨by simp [addE, *], by simp [addE, *]⟩
    · intro h12
      have hdate : dateB x.date := by simp only [cmpP] at h8 h12; exact ⟨by omega, by omega⟩
      refine ws_l rfl rfl rfl rfl (rd_pick_f rfl rfl) ?_
      refine ws_nil ?_
      refine qe_then ?_
      refine wc_keep [(0, _), (3, _), (4, _), (5, _), (13, _)] rfl ?_
      refine wc_false rfl ?_
      refine wc_skip ?_
      refine qe_then ?_
      refine wc_seq ?_
      refine wc_seq ?_
      refine wc_plain [(0, .x true), (1, .x true), (2, .x true), (3, .x true), (4, .x true)] (by kernel_rfl) ?_
      refine ws_l rfl rfl rfl rfl (rd_move rfl) ?_
      refine ws_l rfl rfl rfl rfl (rd_fieldAddr rfl) ?_
      refine ws_l rfl rfl rfl rfl (rd_load rfl) ?_
      refine ws_callp rfl rfl rfl rfl rfl (En.go) (fun w hp hn ho => find_ref v ν l hown.src (by omega) x.id w (hp.mono SubH.mem) hnd) ?_
      refine ws_lcmp rfl rfl rfl (rfl) (rfl) (rfl) ?_ ?_
      · intro h19
        have hseen : ∃ y ∈ l, y.id = x.id := by rw [← findR_mem]; simp only [cmpP] at h19; omega
        refine ws_nil ?_
        refine qe_then ?_
        refine wc_keep [(0, _), (3, _), (4, _), (5, _), (19, _)] rfl ?_
        refine wc_true rfl ?_
        refine wc_seq ?_
        refine wc_plain [(0, .x true), (1, .x true), (2, .x true)] (by kernel_rfl) ?_
        refine ws_l rfl rfl rfl rfl (rd_move rfl) ?_
        refine ws_l rfl rfl rfl rfl (rd_assign rfl) ?_
        refine ws_l rfl rfl rfl rfl (rd_assign rfl) ?_
        refine ws_nil ?_
        refine qe_then ?_
        refine wc_ret ?_
        refine qe_then_ret ?_
        refine qe_body _ (.inl rfl) (res2 rfl (RV.tmp rfl) (RV.tmp rfl)) ?_
        exact ret_end fun w hp hn ho => .inr ⟨by simp [addE, *], by simp [addE, *]⟩
      · intro h19
        have hseen : ¬ ∃ y ∈ l, y.id = x.id := by rw [← findR_mem]; simp only [cmpP] at h19; omega
        refine ws_nil ?_
        refine qe_then ?_
        refine wc_keep [(0, _), (3, _), (4, _), (5, _), (19, _)] rfl ?_
        refine wc_false rfl ?_
        refine wc_skip ?_
        refine qe_then ?_
        refine wc_seq ?_
        refine wc_seq ?_
        refine wc_plain [(0, .x true), (1, .x true), (2, .x true)] (by kernel_rfl) ?_
        refine ws_l rfl rfl rfl rfl (rd_move rfl) ?_
        refine ws_l rfl rfl rfl rfl (rd_lenO hown rfl Try.underlying22) ?_
        refine ws_lcmp rfl rfl rfl (rfl) (rfl) (rfl) ?_ ?_
        · intro h23
          have hfull : 4096 ≤ l.length := by simp only [cmpP] at h23; omega
          refine ws_nil ?_
          refine qe_then ?_
          refine wc_true rfl ?_
          refine wc_seq ?_
          refine wc_plain [(0, .x true), (1, .x true), (2, .x true)] (by kernel_rfl) ?_
          refine ws_l rfl rfl rfl rfl (rd_move rfl) ?_
          refine ws_l rfl rfl rfl rfl (rd_assign rfl) ?_
          refine ws_l rfl rfl rfl rfl (rd_assign rfl) ?_
          refine ws_nil ?_
          refine qe_then ?_
          refine wc_keep [(0, _), (3, _), (4, _), (5, _)] rfl ?_
          refine wc_ret ?_
          refine qe_then_ret ?_
          refine qe_body _ (.inl rfl) (res2 rfl (RV.tmp rfl) (RV.tmp rfl)) ?_
          exact ret_end fun w hp hn ho => .inr ⟨by simp [addE, *], by simp [addE, *]⟩
        · intro h23
          have hfull : ¬ 4096 ≤ l.length := by simp only [cmpP] at h23; omega
          refine ws_nil ?_
          refine qe_then ?_
          refine wc_false rfl ?_
          refine wc_skip ?_
          refine qe_then ?_
          refine wc_seq ?_
          refine wc_drawnO mixedT _ (fun _ h => h) (.r 1 (.r 3 (.b 0 4 (.b 2 4 (.seq [(4, .x false), (5, .x true), (6, .x true), (7, .x true)]) (.seq [(2, .x false), (5, .x true), (6, .x true), (7, .x true)])) (.seq [(0, .x false), (2, .x false), (5, .x true), (6, .x true), (7, .x true)])))) (by kernel_rfl) ?_
          refine od_r ?_
          refine ws_r rfl rfl rfl rfl (rd_move rfl) ?_
          refine od_go ?_
          refine od_r ?_
          refine ws_r rfl rfl rfl rfl (rd_load rfl) ?_
          refine od_go ?_
          refine od_b ?_ ?_
          ·
            refine ws_buildSlice rfl rfl rfl rfl ?_
            intro b25 hb25
            have hlit0 := OwnR.lit0 (E := 46) (k := 82) hb25
            refine od_go ?_
            refine od_b ?_ ?_
            ·
              refine ws_appendS rfl rfl rfl rfl rfl hlit0 (hown.src.mono (fun _ h => by simp [h])) (rrsL_one l) (by simp only [maxLen]; omega) (by omega) (fun _ _ _ h => by first | (cases h; done) | (simp only [List.mem_append, List.mem_cons] at h ⊢; grind) | skip) ?_
              intro va νa howna
              have hra : OwnR w.heap.size 46 82 va νa l.length (l.flatMap rrL) := by simpa using howna
              refine od_go ?_
              refine od_seq ?_
              refine ws_buildSlice rfl rfl rfl rfl ?_
              intro b29 hb29
              refine ws_late rfl ?_
              refine ws_append rfl rfl rfl rfl rfl hra (by simp [rrC_size]) (rrC_one _) (by simp only [maxLen]; omega) (by omega) (fun _ _ _ h => by first | (cases h; done) | (simp only [List.mem_append, List.mem_cons] at h ⊢; grind) | skip) ?_
              intro vb νb hownb
              have hrb : OwnR w.heap.size 46 82 vb νb (l ++ [x]).length ((l ++ [x]).flatMap rrL) := Row.app (enc := rrL) hownb rfl (by simp)
              refine ws_l rfl rfl rfl rfl (rd_assign rfl) ?_
              refine ws_l rfl rfl rfl rfl (rd_assign rfl) ?_
              refine ws_nil ?_
              refine qe_then ?_
              refine wc_keep [(4, _), (5, _)] rfl ?_
              refine wc_ret ?_
              refine qe_body _ (.inl rfl) (res2 rfl (RV.tmp rfl) (RV.tmp rfl)) ?_
              have he : addE l x = 0 := by simp [addE, *]
              exact ret_end fun w hp hn ho => .inl ⟨he, vb, νb, rfl, by rw [addO, if_pos he]; exact hrb, (hp.mono SubH.mem)⟩
            ·
              refine ws_buildSlice rfl rfl rfl rfl ?_
              intro b29 hb29
              refine od_go ?_
              refine od_seq ?_
              refine ws_appendS rfl rfl rfl rfl rfl hlit0 (hown.src.mono (fun _ h => by simp [h])) (rrsL_one l) (by simp only [maxLen]; omega) (by omega) (fun _ _ _ h => by first | (cases h; done) | (simp only [List.mem_append, List.mem_cons] at h ⊢; grind) | skip) ?_
              intro va νa howna
              have hra : OwnR w.heap.size 46 82 va νa l.length (l.flatMap rrL) := by simpa using howna
              refine ws_late rfl ?_
              refine ws_append rfl rfl rfl rfl rfl hra (by simp [rrC_size]) (rrC_one _) (by simp only [maxLen]; omega) (by omega) (fun _ _ _ h => by first | (cases h; done) | (simp only [List.mem_append, List.mem_cons] at h ⊢; grind) | skip) ?_
              intro vb νb hownb
              have hrb : OwnR w.heap.size 46 82 vb νb (l ++ [x]).length ((l ++ [x]).flatMap rrL) := Row.app (enc := rrL) hownb rfl (by simp)
              refine ws_l rfl rfl rfl rfl (rd_assign rfl) ?_
              refine ws_l rfl rfl rfl rfl (rd_assign rfl) ?_
              refine ws_nil ?_
              refine qe_then ?_
              refine wc_keep [(4, _), (5, _)] rfl ?_
              refine wc_ret ?_
              refine qe_body _ (.inl rfl) (res2 rfl (RV.tmp rfl) (RV.tmp rfl)) ?_
              have he : addE l x = 0 := by simp [addE, *]
              exact ret_end fun w hp hn ho => .inl ⟨he, vb, νb, rfl, by rw [addO, if_pos he]; exact hrb, (hp.mono SubH.mem)⟩
          ·
            refine ws_buildSlice rfl rfl rfl rfl ?_
            intro b29 hb29
            refine od_go ?_
            refine od_seq ?_
            refine ws_buildSlice rfl rfl rfl rfl ?_
            intro b25 hb25
            have hlit0 := OwnR.lit0 (E := 46) (k := 82) hb25
            refine ws_appendS rfl rfl rfl rfl rfl hlit0 (hown.src.mono (fun _ h => by simp [h])) (rrsL_one l) (by simp only [maxLen]; omega) (by omega) (fun _ _ _ h => by first | (cases h; done) | (simp only [List.mem_append, List.mem_cons] at h ⊢; grind) | skip) ?_
            intro va νa howna
            have hra : OwnR w.heap.size 46 82 va νa l.length (l.flatMap rrL) := by simpa using howna
            refine ws_late rfl ?_
            refine ws_append rfl rfl rfl rfl rfl hra (by simp [rrC_size]) (rrC_one _) (by simp only [maxLen]; omega) (by omega) (fun _ _ _ h => by first | (cases h; done) | (simp only [List.mem_append, List.mem_cons] at h ⊢; grind) | skip) ?_
            intro vb νb hownb
            have hrb : OwnR w.heap.size 46 82 vb νb (l ++ [x]).length ((l ++ [x]).flatMap rrL) := Row.app (enc := rrL) hownb rfl (by simp)
            refine ws_l rfl rfl rfl rfl (rd_assign rfl) ?_
            refine ws_l rfl rfl rfl rfl (rd_assign rfl) ?_
            refine ws_nil ?_
            refine qe_then ?_
            refine wc_keep [(4, _), (5, _)] rfl ?_
            refine wc_ret ?_
            refine qe_body _ (.inl rfl) (res2 rfl (RV.tmp rfl) (RV.tmp rfl)) ?_
            have he : addE l x = 0 := by simp [addE, *]
            exact ret_end fun w hp hn ho => .inl ⟨he, vb, νb, rfl, by rw [addO, if_pos he]; exact hrb, (hp.mono SubH.mem)⟩
set_option maxRecDepth 100000 in
set_option maxHeartbeats 1000000 in
theorem drop_ref (base : Nat) (v : Value) (ν : Heap) (l : List RR) (hown : OwnR base 46 82 v ν l.length (l.flatMap rrL)) (hlen : l.length < 8192) (hn0 : (l.map RR.id).Nodup) (id : Id) (w : World) (hν : HpOK ν w) (hnd : (ν.map Prod.fst).Nodup) : Ret Try.prog 46 [v, idK id] w [] (fun u w' => (dropE l id = 0 ∧ ∃ (vc : Value) (νc : Heap), u = .tuple #[vc, I 0] ∧ OwnR w.heap.size 46 82 vc νc (dropO l id).length ((dropO l id).flatMap rrL) ∧ HpOK νc w') ∨ (dropE l id ≠ 0 ∧ u = .tuple #[v, I (dropE l id)])) := by
  refine enter (n := 23) (args := [v, idK id]) [] ν Try.func46 rfl rfl rfl hν hnd ?_
  refine wc_seq ?_
  refine wc_plain [(0, .x true), (1, .x true), (2, .x true)] (by kernel_rfl) ?_
  refine ws_box rfl rfl rfl rfl ?_
  intro b3 hb3
  refine ws_l rfl rfl rfl rfl (rd_assign rfl) ?_
  refine ws_l rfl rfl rfl rfl (rd_assign rfl) ?_
  refine ws_nil ?_
  refine qe_then ?_
  refine wc_seq ?_
  refine wc_plain [(0, .x true), (1, .x true), (2, .x true), (3, .x true)] (by kernel_rfl) ?_
  refine ws_l rfl rfl rfl rfl (rd_move rfl) ?_
  refine ws_l rfl rfl rfl rfl (rd_load rfl) ?_
  refine ws_callp rfl rfl rfl rfl rfl (En.go) (fun w hp hn ho => find_ref v ν l hown.src (by omega) id w (hp.mono SubH.mem) hnd) ?_
  refine ws_l rfl rfl rfl rfl (rd_assign rfl) ?_
  refine ws_nil ?_
  refine qe_then ?_
  refine wc_keep [(0, _), (4, _), (5, _), (6, _)] rfl ?_
  refine wc_seq ?_
  refine wc_seq ?_
  refine wc_plain [(0, .x true), (1, .x true)] (by kernel_rfl) ?_
  refine ws_l rfl rfl rfl rfl (rd_move rfl) ?_
  rcases findR_first id l 0 with ⟨hf1, hf2⟩ | ⟨i, x, hx, rfl, hfe, hf4⟩
  ·
    refine ws_l rfl rfl rfl rfl (rd_cmp_t rfl rfl rfl (by simp only [cmpP]; omega)) ?_
    refine ws_nil ?_
    refine qe_then ?_
    refine wc_true rfl ?_
    refine wc_seq ?_
    refine wc_plain [(0, .x true), (1, .x true), (2, .x true)] (by kernel_rfl) ?_
    refine ws_l rfl rfl rfl rfl (rd_move rfl) ?_
    refine ws_l rfl rfl rfl rfl (rd_assign rfl) ?_
    refine ws_l rfl rfl rfl rfl (rd_assign rfl) ?_
    refine ws_nil ?_
    refine qe_then ?_
    refine wc_ret ?_
    refine qe_then_ret ?_
    refine qe_body _ (.inl rfl) (res2 rfl (RV.tmp rfl) (RV.tmp rfl)) ?_
    exact ret_end fun w hp hn ho => by have he : dropE l id = 8 := (by rw [dropE, if_neg (fun ⟨x, hx, e⟩ => hf2 x hx e)]); exact .inr ⟨by rw [he]; decide, by rw [he]⟩
  ·
    rw [Nat.zero_add] at hfe
    have hil := (List.getElem?_eq_some_iff.1 hx).1
    rw [hfe]
    refine ws_l rfl rfl rfl rfl (rd_cmp_f rfl rfl rfl (by simp only [cmpP]; omega)) ?_
    refine ws_nil ?_
    refine qe_then ?_
    refine wc_false rfl ?_
    refine wc_skip ?_
    refine qe_then ?_
    refine wc_seq ?_
    refine wc_drawn mixedT _ (fun _ h => h) [(1, .r), (2, .r), (3, .r), (5, .r), (6, .r), (7, .r), (8, .r), (0, .x false), (4, .x false), (9, .x true), (10, .x true), (11, .x true)] (by kernel_rfl) ?_
    refine ws_r rfl rfl rfl rfl (rd_move rfl) ?_
    refine ws_r rfl rfl rfl rfl (rd_move rfl) ?_
    obtain ⟨uu1, huu1, hsu1⟩ := OwnR.upto hown .i64 i (by omega) Try.underlying22 Try.sizeOf46
    refine ws_r rfl rfl rfl rfl (rd_slice_h Try.underlying22 rfl rfl huu1) ?_
    refine ws_r rfl rfl rfl rfl (rd_move rfl) ?_
    refine ws_r rfl rfl rfl rfl (rd_move rfl) ?_
    refine ws_r rfl rfl rfl rfl (rd_arith ((i + 1 : Nat) : Int) rfl rfl rfl (by rw [wrap_i64 _ (by omega) (by omega)]; omega)) ?_
    obtain ⟨uu2, huu2, hsu2⟩ := OwnR.behind hown .i64 (i + 1) (by omega) Try.underlying22 Try.sizeOf46
    refine ws_r rfl rfl rfl rfl (rd_slice_l Try.underlying22 rfl rfl huu2) ?_
    refine ws_buildSlice rfl rfl rfl rfl ?_
    intro b13 hb13
    have hlit0 := OwnR.lit0 (E := 46) (k := 82) hb13
    refine ws_appendS rfl rfl rfl rfl rfl hlit0 (hsu1.mono (fun _ h => by first | (simp [h]; done) | (simp only [List.mem_append, List.mem_cons, List.not_mem_nil, or_false] at h ⊢; simp [h]))) (fun u hu => rrsL_one l u (List.mem_of_mem_take hu)) (by simp only [maxLen]; omega) (by omega) (fun _ _ _ h => by first | (cases h; done) | (simp only [List.mem_append, List.mem_cons] at h ⊢; grind) | skip) ?_
    intro va νa howna
    have hra : OwnR w.heap.size 46 82 va νa (l.take i).length ((l.take i).flatMap rrL) := by simpa [flat_take rrL_len, Nat.min_eq_left (Nat.le_of_lt hil)] using howna
    have hal : (l.take i).length = i := by rw [List.length_take]; omega
    refine ws_late rfl ?_
    refine ws_appendS rfl rfl rfl rfl rfl hra (hsu2.mono (fun _ h => by first | (simp [h]; done) | (simp only [List.mem_append, List.mem_cons, List.not_mem_nil, or_false] at h ⊢; simp [h]))) (fun u hu => rrsL_one l u (List.mem_of_mem_drop hu)) (by simp only [maxLen, hal]; omega) (by simp only [hal]; omega) (fun _ _ _ h => by first | (cases h; done) | (simp only [List.mem_append, List.mem_cons] at h ⊢; grind) | skip) ?_
    intro vb νb hownb
    have hrb : OwnR w.heap.size 46 82 vb νb (l.take i ++ l.drop (i + 1)).length ((l.take i ++ l.drop (i + 1)).flatMap rrL) := Row.app (enc := rrL) (ys := l.drop (i + 1)) hownb (by simp) (flat_drop rrL_len l (i + 1))
    rw [dropO_at hn0 hx] at hrb
    refine ws_l rfl rfl rfl rfl (rd_assign rfl) ?_
    refine ws_l rfl rfl rfl rfl (rd_assign rfl) ?_
    refine ws_nil ?_
    refine qe_then ?_
    refine wc_keep [(4, _), (5, _)] rfl ?_
    refine wc_ret ?_
    refine qe_body _ (.inl rfl) (res2 rfl (RV.tmp rfl) (RV.tmp rfl)) ?_
    exact ret_end fun w hp hn ho => .inl ⟨by rw [dropE, if_pos ⟨x, List.mem_of_getElem? hx, rfl⟩], vb, νb, rfl, hrb, (hp.mono SubH.mem)⟩

end Go.Proofs.Ytaagmgpfpaanlaa
