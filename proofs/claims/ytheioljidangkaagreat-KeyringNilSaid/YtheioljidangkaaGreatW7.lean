/- Walks: a running digest: take, New, Clone. No conditions. -/
import Derived.Test.YtheioljidangkaaGreatHsh
namespace Go.Proofs.YtheioljidangkaaGreat
open Go Go.RowKit Go.Sx
set_option linter.unusedSimpArgs false
set_option linter.unusedVariables false

set_option maxRecDepth 100000 in
set_option maxHeartbeats 1000000 in
theorem take17_ret (p : Nat) (st : WV 8) (n : Int) (v : Value) (φ : Heap) (bs : List UInt8) (hl : bs.length = 17) (hsrc : Src φ v 1 17 (byL bs)) (w : World) (hφ : HpOK ((p, .cells (hashC st snil n true) 187 (0, 0)) :: φ) w) (hnd : (((p, .cells (hashC st snil n true) 187 (0, 0)) :: φ).map Prod.fst).Nodup) : Ret Tryz.prog 112 [ptr p, v] w [p] (fun _ w' => ∃ g c cur, w.heap.size ≤ g ∧ HpOK [(p, .cells (hashC st (.slice (some ⟨g, 0, none⟩) 17 c) n true) 187 (0, 0)), (g, .cells cur 5 (0, 0))] w' ∧ BytesAt cur 0 17 bs) := by
  refine enter (n := 44) (args := [ptr p, v]) [p] ((p, .cells (hashC st snil n true) 187 (0, 0)) :: φ) Tryz.func112 rfl rfl rfl hφ hnd ?_
  refine wc_seq ?_
  refine wc_seq ?_
  refine wc_plain [(0, .x true), (1, .x true), (2, .x true), (3, .x true), (4, .x true)] (by kernel_rfl) ?_
  refine ws_l rfl rfl rfl rfl (rd_move rfl) ?_
  refine ws_l rfl rfl rfl rfl (rd_nil rfl) ?_
  refine ws_l rfl rfl rfl rfl (rd_fieldAddr rfl) ?_
  refine ws_l rfl rfl rfl rfl (rd_load rfl) ?_
  refine ws_l rfl rfl rfl rfl (rd_not rfl) ?_
  refine ws_nil ?_
  refine qe_then ?_
  refine wc_false rfl ?_
  refine wc_skip ?_
  refine qe_then ?_
  refine wc_keep [(0, _), (1, _)] rfl ?_
  refine wc_seq ?_
  refine wc_plain [(0, .x true), (1, .x true), (2, .x true), (3, .x true), (4, .x true), (5, .x true), (6, .x true), (7, .x true), (8, .x true)] (by kernel_rfl) ?_
  refine ws_buildSlice rfl rfl rfl rfl ?_
  intro b17 hb17
  have hlit0 := OwnR.lit0 (E := 5) (k := 1) hb17
  refine ws_l rfl rfl rfl rfl (rd_move rfl) ?_
  refine ws_l rfl rfl rfl rfl (rd_nil rfl) ?_
  refine ws_l rfl rfl rfl rfl (rd_fieldAddr rfl) ?_
  refine ws_l rfl rfl rfl rfl (rd_load rfl) ?_
  refine ws_appendS rfl rfl rfl rfl rfl hlit0 (show Src _ snil 1 0 [] from ⟨by simp, .inl ⟨rfl, rfl⟩⟩) (by simp) (by simp only [maxLen]; omega) (by omega) (fun _ _ _ h => by first | (cases h; done) | (simp only [List.mem_append, List.mem_cons] at h ⊢; grind) | skip) ?_
  intro va νa howna
  refine ws_l rfl rfl rfl rfl (rd_move rfl) ?_
  refine ws_appendS rfl rfl rfl rfl rfl howna (hsrc.mono (fun _ h => by simp [h])) (fun u hu => by obtain ⟨x, _, rfl⟩ := List.mem_map.1 hu; rfl) (by simp only [maxLen]; omega) (by omega) (fun _ _ _ h => by first | (cases h; done) | (simp only [List.mem_append, List.mem_cons] at h ⊢; grind) | skip) ?_
  intro vb νb hownb
  obtain ⟨g5, c5, cur5, rfl, rfl, hg5, hc5, hcur5⟩ := OwnR.opened (n := 17) (xs := byL bs) (by simpa using hownb) (by omega)
  refine ws_l rfl rfl rfl rfl (rd_assign rfl) ?_
  refine ws_nil ?_
  refine qe_then ?_
  refine wc_keep [(0, _), (4, _)] rfl ?_
  refine wc_seq ?_
  refine wc_block ?_
  refine wc_loop (fun mz ac w1 => ∃ (z : Unit), mz = 0 ∧ St 44 w [p] [(0, ptr p), (4, .slice (some ⟨g5, 0, none⟩) 17 c5)] [(g5, .cells cur5 5 (0, 0)), (p, .cells (hashC st snil n true) 187 (0, 0))] ac w1) _ (fun ac w1 hs => ⟨(), rfl, st_sub hs _ rfl⟩) ?_
  rintro _ ac1 wl1 ⟨z, rfl, hs1⟩
  refine wc_at hs1 ?_
  refine wc_seq ?_
  refine wc_seq ?_
  refine wc_plain [(0, .x true), (1, .x true), (2, .x true)] (by kernel_rfl) ?_
  refine ws_l rfl rfl rfl rfl (rd_move rfl) ?_
  refine ws_l rfl rfl rfl rfl (rd_len rfl Tryz.underlying87) ?_
  refine ws_l rfl rfl rfl rfl (rd_cmp_f rfl rfl rfl (by simp [cmpP])) ?_
  refine ws_nil ?_
  refine qe_then ?_
  refine wc_false rfl ?_
  refine wc_exit ?_
  refine qe_then_exit ?_
  refine qe_then_exit ?_
  refine qe_block_exit ?_
  refine qe_then ?_
  refine wc_plain [(0, .x true), (1, .x true), (2, .x true), (3, .x true), (4, .x true)] (by kernel_rfl) ?_
  refine ws_l rfl rfl rfl rfl (rd_move rfl) ?_
  refine ws_l rfl rfl rfl rfl (rd_move rfl) ?_
  refine ws_l rfl rfl rfl rfl (rd_nil rfl) ?_
  refine ws_l rfl rfl rfl rfl (rd_fieldAddr rfl) ?_
  refine ws_store rfl rfl rfl rfl (by first | exact .inl (by assumption) | exact .inr (by simp)) (fun _ h _ => by first | (cases h; done) | exact List.mem_cons_of_mem _ h | exact List.mem_cons_of_mem _ (List.mem_cons_of_mem _ h) | (simp at h ⊢; simp [h])) ?_
  refine ws_nil ?_
  refine qe_body _ (.inr rfl) (res0 rfl) ?_
  exact ret_end fun w hp hn ho => ⟨g5, c5, cur5, hg5, (hp.mono SubH.mem), bytes_of hl hcur5⟩
set_option maxRecDepth 100000 in
set_option maxHeartbeats 1000000 in
theorem take64_ret (p g0 c0 : Nat) (cur0 : Array Value) (E0 : TypeId) (fr0 : Nat × Nat) (st : WV 8) (n : Int) (v : Value) (φ : Heap) (rs ps : List UInt8) (hr : rs.length = 17) (hl : ps.length = 47) (hB : BytesAt cur0 0 17 rs) (hsrc : Src φ v 1 47 (byL ps)) (w : World) (hφ : HpOK ((p, .cells (hashC st (.slice (some ⟨g0, 0, none⟩) 17 c0) n true) 187 (0, 0)) :: (g0, .cells cur0 E0 fr0) :: φ) w) (hnd : (((p, .cells (hashC st (.slice (some ⟨g0, 0, none⟩) 17 c0) n true) 187 (0, 0)) :: (g0, .cells cur0 E0 fr0) :: φ).map Prod.fst).Nodup) : Ret Tryz.prog 112 [ptr p, v] w [p] (fun _ w' => ∃ A m c, HpOK [(p, .cells (hashC (plusF (procF st (loadF (rs ++ ps) 16) 64).2 st) (.slice A m c) n true) 187 (0, 0))] w') := by
  refine enter (n := 44) (args := [ptr p, v]) [p] ((p, .cells (hashC st (.slice (some ⟨g0, 0, none⟩) 17 c0) n true) 187 (0, 0)) :: (g0, .cells cur0 E0 fr0) :: φ) Tryz.func112 rfl rfl rfl hφ hnd ?_
  refine wc_seq ?_
  refine wc_seq ?_
  refine wc_plain [(0, .x true), (1, .x true), (2, .x true), (3, .x true), (4, .x true)] (by kernel_rfl) ?_
  refine ws_l rfl rfl rfl rfl (rd_move rfl) ?_
  refine ws_l rfl rfl rfl rfl (rd_nil rfl) ?_
  refine ws_l rfl rfl rfl rfl (rd_fieldAddr rfl) ?_
  refine ws_l rfl rfl rfl rfl (rd_load rfl) ?_
  refine ws_l rfl rfl rfl rfl (rd_not rfl) ?_
  refine ws_nil ?_
  refine qe_then ?_
  refine wc_false rfl ?_
  refine wc_skip ?_
  refine qe_then ?_
  refine wc_keep [(0, _), (1, _)] rfl ?_
  refine wc_seq ?_
  refine wc_plain [(0, .x true), (1, .x true), (2, .x true), (3, .x true), (4, .x true), (5, .x true), (6, .x true), (7, .x true), (8, .x true)] (by kernel_rfl) ?_
  refine ws_buildSlice rfl rfl rfl rfl ?_
  intro b17 hb17
  have hlit0 := OwnR.lit0 (E := 5) (k := 1) hb17
  refine ws_l rfl rfl rfl rfl (rd_move rfl) ?_
  refine ws_l rfl rfl rfl rfl (rd_nil rfl) ?_
  refine ws_l rfl rfl rfl rfl (rd_fieldAddr rfl) ?_
  refine ws_l rfl rfl rfl rfl (rd_load rfl) ?_
  refine ws_appendS rfl rfl rfl rfl rfl hlit0 (byL_src (E := E0) (fr := fr0) hB (by simp)) (fun u hu => by obtain ⟨x, _, rfl⟩ := List.mem_map.1 hu; rfl) (by simp only [maxLen]; omega) (by omega) (fun _ _ _ h => by first | (cases h; done) | (simp only [List.mem_append, List.mem_cons] at h ⊢; grind) | skip) ?_
  intro va νa howna
  refine ws_l rfl rfl rfl rfl (rd_move rfl) ?_
  refine ws_appendS rfl rfl rfl rfl rfl howna (hsrc.mono (fun _ h => by simp [h])) (fun u hu => by obtain ⟨x, _, rfl⟩ := List.mem_map.1 hu; rfl) (by simp only [maxLen]; omega) (by omega) (fun _ _ _ h => by first | (cases h; done) | (simp only [List.mem_append, List.mem_cons] at h ⊢; grind) | skip) ?_
  intro vb νb hownb
  obtain ⟨g5, c5, cur5, rfl, rfl, hg5, hc5, hcur5⟩ := OwnR.opened (n := 64) (xs := byL (rs ++ ps)) (by simpa [byL] using hownb) (by omega)
  have hB5 : BytesAt cur5 0 64 (rs ++ ps) := bytes_of (by simp [hr, hl]) hcur5
  refine ws_l rfl rfl rfl rfl (rd_assign rfl) ?_
  refine ws_nil ?_
  refine qe_then ?_
  refine wc_keep [(0, _), (4, _)] rfl ?_
  refine wc_seq ?_
  refine wc_block ?_
  refine wc_loop (fun mz ac w1 => ∃ (m : Nat) (oo : Nat) (c : Nat) (V : WV 8), mz = m * 2 ∧ ((m = 64 ∧ oo = 0 ∧ V = st) ∨ (m = 0 ∧ V = plusF (procF st (loadF (rs ++ ps) 16) 64).2 st)) ∧ St 44 w [p] [(0, ptr p), (4, .slice (some ⟨g5, oo, none⟩) m c)] [(g5, .cells cur5 5 (0, 0)), (p, .cells (hashC V (.slice (some ⟨g0, 0, none⟩) 17 c0) n true) 187 (0, 0))] ac w1) _ (fun ac w1 hs => ⟨64, 0, c5, st, rfl, (.inl ⟨rfl, rfl, rfl⟩), st_sub hs _ rfl⟩) ?_
  rintro _ ac1 wl1 ⟨m, oo, c, V, rfl, hm, hs1⟩
  refine wc_at hs1 ?_
  refine wc_seq ?_
  refine wc_seq ?_
  refine wc_plain [(0, .x true), (1, .x true), (2, .x true)] (by kernel_rfl) ?_
  refine ws_l rfl rfl rfl rfl (rd_move rfl) ?_
  refine ws_l rfl rfl rfl rfl (rd_len rfl Tryz.underlying87) ?_
  refine ws_lcmp rfl rfl rfl (rfl) (rfl) (rfl) ?_ ?_
  · intro h27
    obtain ⟨rfl, rfl, rfl⟩ : m = 64 ∧ oo = 0 ∧ V = st := by simp only [cmpP] at h27; rcases hm with hm | hm; exact hm; omega
    refine ws_nil ?_
    refine qe_then ?_
    refine wc_true rfl ?_
    refine wc_skip ?_
    refine qe_then ?_
    refine wc_block ?_
    refine wc_seq ?_
    refine wc_drawn mixedT _ (fun _ h => h) [(0, .r), (1, .r), (2, .r), (3, .r), (4, .r), (5, .r), (6, .x false), (7, .x false), (8, .x true), (9, .x true), (10, .x true)] (by kernel_rfl) ?_
    refine ws_r rfl rfl rfl rfl (rd_move rfl) ?_
    refine ws_r rfl rfl rfl rfl (rd_move rfl) ?_
    refine ws_r rfl rfl rfl rfl (rd_nil rfl) ?_
    refine ws_r rfl rfl rfl rfl (rd_fieldAddr rfl) ?_
    refine ws_r rfl rfl rfl rfl (rd_load rfl) ?_
    refine ws_r rfl rfl rfl rfl (rd_move rfl) ?_
    refine ws_callp rfl rfl rfl rfl rfl (En.go) (fun w hp hn ho => load_ret g5 0 _ 64 cur5 5 (0, 0) (rs ++ ps) hB5 w (hp.mono (by simp)) (by omega) (by omega)) ?_
    refine ws_callp rfl rfl rfl rfl rfl (En.go) (fun w hp hn ho => process_ret _ _ w) ?_
    refine ws_late rfl ?_
    refine ws_l rfl rfl rfl rfl (rd_nil rfl) ?_
    refine ws_l rfl rfl rfl rfl (rd_fieldAddr rfl) ?_
    refine ws_store rfl rfl rfl rfl (by first | exact .inl (by assumption) | exact .inr (by simp)) (fun _ h _ => by first | (cases h; done) | exact List.mem_cons_of_mem _ h | exact List.mem_cons_of_mem _ (List.mem_cons_of_mem _ h) | (simp at h ⊢; simp [h])) ?_
    refine ws_nil ?_
    refine qe_then ?_
    refine wc_plain [(0, .x true), (1, .x true), (2, .x true)] (by kernel_rfl) ?_
    refine ws_l rfl rfl rfl rfl (rd_move rfl) ?_
    refine ws_l rfl rfl rfl rfl (rd_sliceLo (i := 64) (if c = 64 then 0 else 0 + 64 * 1) Tryz.underlying87 rfl rfl Tryz.sizeOf5 (by omega) (by rfl)) ?_
    refine ws_l rfl rfl rfl rfl (rd_assign rfl) ?_
    refine ws_nil ?_
    refine qe_block ?_
    exact qe_loop fun ac2 w2 hs2 => ⟨_, by omega, 64 - 64, _, _, _, rfl, (.inr ⟨by omega, rfl⟩), st_sub hs2 _ rfl⟩
  · intro h27
    obtain ⟨rfl, rfl⟩ : m = 0 ∧ V = plusF (procF st (loadF (rs ++ ps) 16) 64).2 st := by simp only [cmpP] at h27; rcases hm with hm | hm; omega; exact hm
    refine ws_nil ?_
    refine qe_then ?_
    refine wc_false rfl ?_
    refine wc_exit ?_
    refine qe_then_exit ?_
    refine qe_then_exit ?_
    refine qe_block_exit ?_
    refine qe_then ?_
    refine wc_plain [(0, .x true), (1, .x true), (2, .x true), (3, .x true), (4, .x true)] (by kernel_rfl) ?_
    refine ws_l rfl rfl rfl rfl (rd_move rfl) ?_
    refine ws_l rfl rfl rfl rfl (rd_move rfl) ?_
    refine ws_l rfl rfl rfl rfl (rd_nil rfl) ?_
    refine ws_l rfl rfl rfl rfl (rd_fieldAddr rfl) ?_
    refine ws_store rfl rfl rfl rfl (by first | exact .inl (by assumption) | exact .inr (by simp)) (fun _ h _ => by first | (cases h; done) | exact List.mem_cons_of_mem _ h | exact List.mem_cons_of_mem _ (List.mem_cons_of_mem _ h) | (simp at h ⊢; simp [h])) ?_
    refine ws_nil ?_
    refine qe_body _ (.inr rfl) (res0 rfl) ?_
    exact ret_end fun w hp hn ho => ⟨some ⟨g5, oo, none⟩, 0, c, (hp.mono SubH.mem)⟩
set_option maxRecDepth 100000 in
set_option maxHeartbeats 1000000 in
theorem hnew_ret (w : World) : Ret Tryz.prog 104 [] w [] (fun v w' => ∃ p, v = ptr p ∧ w.heap.size ≤ p ∧ HpOK [(p, .cells (hashC kI snil 0 true) 187 (0, 0))] w') := by
  refine enter (n := 4) (args := []) [] [] Tryz.func104 rfl rfl rfl (HpOK.nil w) (by simp) ?_
  refine wc_seq ?_
  refine wc_plain [(0, .x true)] (by kernel_rfl) ?_
  refine ws_l rfl rfl rfl rfl (rd_assign rfl) ?_
  refine ws_nil ?_
  refine qe_then ?_
  refine wc_seq ?_
  refine wc_plain [(0, .x true), (1, .x true), (2, .x true), (3, .x true)] (by kernel_rfl) ?_
  refine ws_callp rfl rfl rfl rfl rfl (En.go) (fun w hp hn ho => initial_ret w) ?_
  refine ws_l rfl rfl rfl rfl (rd_build rfl) ?_
  refine ws_box rfl rfl rfl rfl ?_
  intro b3 hb3
  refine ws_l rfl rfl rfl rfl (rd_assign rfl) ?_
  refine ws_nil ?_
  refine qe_then ?_
  refine wc_ret ?_
  refine qe_body _ (.inl rfl) (res1 rfl (RV.tmp rfl)) ?_
  exact ret_end fun w hp hn ho => ⟨b3, rfl, hb3, hp.mono (by simp)⟩
set_option maxRecDepth 100000 in
set_option maxHeartbeats 1000000 in
theorem hclone_ret (p g c : Nat) (cur : Array Value) (st : WV 8) (n : Int) (bs : List UInt8) (hl : bs.length = 17) (hB : BytesAt cur 0 17 bs) (w : World) (hφ : HpOK [(p, .cells (hashC st (.slice (some ⟨g, 0, none⟩) 17 c) n true) 187 (0, 0)), (g, .cells cur 5 (0, 0))] w) (hnd : p ≠ g) : Ret Tryz.prog 113 [ptr p] w [] (fun v w' => ∃ p' g' c' cur', v = ptr p' ∧ w.heap.size ≤ p' ∧ w.heap.size ≤ g' ∧ p' ≠ g' ∧ HpOK [(p', .cells (hashC st (.slice (some ⟨g', 0, none⟩) 17 c') n true) 187 (0, 0)), (g', .cells cur' 5 (0, 0))] w' ∧ BytesAt cur' 0 17 bs) := by
  refine enter (n := 16) (args := [ptr p]) [] [(p, .cells (hashC st (.slice (some ⟨g, 0, none⟩) 17 c) n true) 187 (0, 0)), (g, .cells cur 5 (0, 0))] Tryz.func113 rfl rfl rfl hφ (by simp [hnd]) ?_
  refine wc_seq ?_
  refine wc_plain [(0, .x true)] (by kernel_rfl) ?_
  refine ws_l rfl rfl rfl rfl (rd_assign rfl) ?_
  refine ws_nil ?_
  refine qe_then ?_
  refine wc_seq ?_
  refine wc_seq ?_
  refine wc_plain [(0, .x true), (1, .x true)] (by kernel_rfl) ?_
  refine ws_l rfl rfl rfl rfl (rd_move rfl) ?_
  refine ws_l rfl rfl rfl rfl (rd_ptr_nil rfl rfl Tryz.underlying174 rfl) ?_
  refine ws_nil ?_
  refine qe_then ?_
  refine wc_false rfl ?_
  refine wc_skip ?_
  refine qe_then ?_
  refine wc_seq ?_
  refine wc_plain [(0, .x true), (1, .x true), (2, .x true), (3, .x true), (4, .x true)] (by kernel_rfl) ?_
  refine ws_l rfl rfl rfl rfl (rd_move rfl) ?_
  refine ws_l rfl rfl rfl rfl (rd_nil rfl) ?_
  refine ws_l rfl rfl rfl rfl (rd_load rfl) ?_
  refine ws_alloc rfl rfl rfl ?_
  intro b3 hb3
  refine ws_store rfl rfl rfl rfl (by first | exact .inl (by assumption) | exact .inr (by simp)) (fun _ h _ => by first | (cases h; done) | exact List.mem_cons_of_mem _ h | exact List.mem_cons_of_mem _ (List.mem_cons_of_mem _ h) | (simp at h ⊢; simp [h])) ?_
  refine ws_nil ?_
  refine qe_then ?_
  refine wc_keep [(0, _), (2, _), (3, _)] rfl ?_
  refine wc_seq ?_
  refine wc_plain [(0, .x true), (1, .x true), (2, .x true), (3, .x true), (4, .x true), (5, .x true), (6, .x true), (7, .x true)] (by kernel_rfl) ?_
  refine ws_buildSlice rfl rfl rfl rfl ?_
  intro b9 hb9
  have hlit0 := OwnR.lit0 (E := 5) (k := 1) hb9
  refine ws_l rfl rfl rfl rfl (rd_move rfl) ?_
  refine ws_l rfl rfl rfl rfl (rd_nil rfl) ?_
  refine ws_l rfl rfl rfl rfl (rd_fieldAddr rfl) ?_
  refine ws_l rfl rfl rfl rfl (rd_load rfl) ?_
  refine ws_appendS rfl rfl rfl rfl rfl hlit0 (byL_src (E := 5) (fr := (0, 0)) hB (by simp)) (fun u hu => by obtain ⟨x, _, rfl⟩ := List.mem_map.1 hu; rfl) (by simp only [maxLen]; omega) (by omega) (fun _ _ _ h => by first | (cases h; done) | (simp only [List.mem_append, List.mem_cons] at h ⊢; grind) | skip) ?_
  intro vb νb hownb
  obtain ⟨g5, c5, cur5, rfl, rfl, hg5, hc5, hcur5⟩ := OwnR.opened (n := 17) (xs := byL bs) (by simpa using hownb) (by omega)
  refine ws_l rfl rfl rfl rfl (rd_fieldAddr rfl) ?_
  refine ws_store rfl rfl rfl rfl (by first | exact .inl (by assumption) | exact .inr (by simp)) (fun _ h _ => by first | (cases h; done) | exact List.mem_cons_of_mem _ h | exact List.mem_cons_of_mem _ (List.mem_cons_of_mem _ h) | (simp at h ⊢; simp [h])) ?_
  refine ws_nil ?_
  refine qe_then ?_
  refine wc_keep [(2, _), (3, _)] rfl ?_
  refine wc_seq ?_
  refine wc_plain [(0, .x true)] (by kernel_rfl) ?_
  refine ws_l rfl rfl rfl rfl (rd_assign rfl) ?_
  refine ws_nil ?_
  refine qe_then ?_
  refine wc_ret ?_
  refine qe_body _ (.inl rfl) (res1 rfl (RV.tmp rfl)) ?_
  exact ret_end fun w hp hn ho => ⟨b3, g5, c5, cur5, rfl, hb3, hg5, (fun e => by subst e; simp at hn), hp.mono SubH.mem, bytes_of hl hcur5⟩

end Go.Proofs.YtheioljidangkaaGreat
