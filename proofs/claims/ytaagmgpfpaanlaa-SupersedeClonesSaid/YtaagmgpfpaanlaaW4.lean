/- Walks: IndexFunc, ContainsFunc, DeleteFunc. No conditions. -/
import Derived.Test.YtaagmgpfpaanlaaW3
namespace Go.Proofs.Ytaagmgpfpaanlaa
open Go Go.RowKit Go.Sx
set_option linter.unusedSimpArgs false
set_option linter.unusedVariables false

set_option maxRecDepth 100000 in
set_option maxHeartbeats 1000000 in
theorem indexf_ret (v : Value) (φ : Heap) (κ : Heap) (fd : Nat) (caps : Array Value) (del : Id → Bool) (hk : IsDel fd caps κ del) (hκn : (κ.map Prod.fst).Nodup) (hsub : ∀ q ∈ κ, q ∈ φ) (ids : List Id) (hsrc : Src φ v 32 ids.length (idsL ids)) (hlen : ids.length < 1048576) (w : World) (hφ : HpOK φ w) (hnd : (φ.map Prod.fst).Nodup) : Ret Try.prog 69 [v, .func (.func fd) #[] caps] w [] (fun u _ => u = I (idxP del ids 0)) := by
  refine enter (n := 19) (args := [v, .func (.func fd) #[] caps]) [] φ Try.func69 rfl rfl rfl hφ hnd ?_
  refine wc_seq ?_
  refine wc_plain [(0, .x true)] (by kernel_rfl) ?_
  refine ws_l rfl rfl rfl rfl (rd_assign rfl) ?_
  refine ws_nil ?_
  refine qe_then ?_
  refine wc_seq ?_
  refine wc_seq ?_
  refine wc_plain [(0, .x true), (1, .x true), (2, .x true)] (by kernel_rfl) ?_
  refine ws_l rfl rfl rfl rfl (rd_move rfl) ?_
  refine ws_l rfl rfl rfl rfl (rd_lenS hsrc rfl Try.underlying26) ?_
  refine ws_l rfl rfl rfl rfl (rd_move rfl) ?_
  refine ws_nil ?_
  refine qe_then ?_
  refine wc_block ?_
  refine wc_loop (fun mz ac w1 => ∃ (j : Nat), mz = ids.length - j ∧ (j ≤ ids.length) ∧ (idxP del (ids.drop j) j = idxP del ids 0) ∧ St 19 w [] [(0, v), (1, .func (.func fd) #[] caps), (6, v), (7, I ids.length), (8, I j)] φ ac w1) _ (fun ac w1 hs => ⟨0, rfl, (by omega), (by simp), st_sub hs _ rfl⟩) ?_
  rintro _ ac1 wl1 ⟨j, rfl, hj, hf, hs1⟩
  refine wc_at hs1 ?_
  refine wc_seq ?_
  refine wc_plain [(0, .x true)] (by kernel_rfl) ?_
  refine ws_lcmp rfl rfl rfl (rfl) (rfl) (rfl) ?_ ?_
  · intro h9
    refine ws_nil ?_
    refine qe_then ?_
    refine wc_seq ?_
    refine wc_true rfl ?_
    refine wc_skip ?_
    refine qe_then ?_
    refine wc_seq ?_
    refine wc_block ?_
    refine wc_seq ?_
    refine wc_plain [(0, .x true), (1, .x true)] (by kernel_rfl) ?_
    refine ws_l rfl rfl rfl rfl (rd_move rfl) ?_
    refine ws_l rfl rfl rfl rfl (rd_assign rfl) ?_
    refine ws_nil ?_
    refine qe_then ?_
    refine wc_seq ?_
    refine wc_plain [(0, .x true), (1, .x true), (2, .x true), (3, .x true), (4, .x true), (5, .x true)] (by kernel_rfl) ?_
    refine ws_l rfl rfl rfl rfl (rd_move rfl) ?_
    refine ws_l rfl rfl rfl rfl (rd_move rfl) ?_
    refine ws_l rfl rfl rfl rfl (rd_move rfl) ?_
    obtain ⟨bg, og, cg, csg, Eg, frg, rfl, hmg, hcg⟩ := Src.opened hsrc (by omega)
    have hmig : HM bg (.cells csg Eg frg) φ := ⟨hmg⟩
    obtain ⟨x, hx⟩ := at_ex (l := ids) (j := j) (by omega)
    have atx : ReadsAt Try.prog 38 csg (og + j * 32) (idK x) := ids_src hcg hx
    refine ws_l rfl rfl rfl rfl (rd_index (og + j * 32) rfl rfl Try.underlying26 Try.sizeOf38 ⟨by omega, by omega⟩ (by simp)) ?_
    refine ws_l rfl rfl rfl rfl (rd_load rfl) ?_
    refine ws_callb (del x) rfl rfl rfl rfl rfl hk.en (fun w hp hn ho => hk.ret x w (hp.mono (fun q hq => by simp [hsub q hq])) hκn) ?_ ?_
    · intro hdel
      refine ws_nil ?_
      refine qe_then ?_
      refine wc_true rfl ?_
      refine wc_seq ?_
      refine wc_plain [(0, .x true), (1, .x true)] (by kernel_rfl) ?_
      refine ws_l rfl rfl rfl rfl (rd_move rfl) ?_
      refine ws_l rfl rfl rfl rfl (rd_assign rfl) ?_
      refine ws_nil ?_
      refine qe_then ?_
      refine wc_ret ?_
      refine qe_block_ret ?_
      refine qe_then_ret ?_
      refine qe_then_ret ?_
      refine qe_block_ret ?_
      refine qe_then_ret ?_
      refine qe_body _ (.inl rfl) (res1 rfl (RV.tmp rfl)) ?_
      exact ret_end fun w hp hn ho => by rw [← hf]; simp [idxP, drop_at hx, *]
    · intro hdel
      refine ws_nil ?_
      refine qe_then ?_
      refine wc_false rfl ?_
      refine wc_skip ?_
      refine qe_block ?_
      refine qe_then ?_
      refine wc_plain [(0, .x true), (1, .x true)] (by kernel_rfl) ?_
      refine ws_l rfl rfl rfl rfl (rd_arith (((j + 1 : Nat) : Int)) rfl rfl rfl (by rw [wrap_i64 _ (by omega) (by omega)]; omega)) ?_
      refine ws_l rfl rfl rfl rfl (rd_move rfl) ?_
      refine ws_nil ?_
      exact qe_loop fun ac2 w2 hs2 => ⟨_, by omega, j + 1, rfl, (by omega), (by rw [← hf, drop_at hx]; simp [idxP, hdel]), st_sub hs2 _ rfl⟩
  · intro h9
    refine ws_nil ?_
    refine qe_then ?_
    refine wc_seq ?_
    refine wc_false rfl ?_
    refine wc_exit ?_
    refine qe_then_exit ?_
    refine qe_then_exit ?_
    refine qe_block_exit ?_
    refine qe_then ?_
    refine wc_keep [] rfl ?_
    refine wc_seq ?_
    refine wc_plain [(0, .x true)] (by kernel_rfl) ?_
    refine ws_l rfl rfl rfl rfl (rd_assign rfl) ?_
    refine ws_nil ?_
    refine qe_then ?_
    refine wc_ret ?_
    refine qe_body _ (.inl rfl) (res1 rfl (RV.tmp rfl)) ?_
    exact ret_end fun w hp hn ho => by rw [← hf, List.drop_eq_nil_of_le (by omega)]; rfl
set_option maxRecDepth 100000 in
set_option maxHeartbeats 1000000 in
theorem containsf_ret (v : Value) (φ : Heap) (κ : Heap) (fd : Nat) (caps : Array Value) (del : Id → Bool) (hk : IsDel fd caps κ del) (hκn : (κ.map Prod.fst).Nodup) (hsub : ∀ q ∈ κ, q ∈ φ) (ids : List Id) (hsrc : Src φ v 32 ids.length (idsL ids)) (hlen : ids.length < 1048576) (w : World) (hφ : HpOK φ w) (hnd : (φ.map Prod.fst).Nodup) : Ret Try.prog 44 [v, .func (.func fd) #[] caps] w [] (fun u _ => u = .bool (ids.any del)) := by
  refine enter (n := 9) (args := [v, .func (.func fd) #[] caps]) [] φ Try.func44 rfl rfl rfl hφ hnd ?_
  refine wc_seq ?_
  refine wc_plain [(0, .x true)] (by kernel_rfl) ?_
  refine ws_l rfl rfl rfl rfl (rd_assign rfl) ?_
  refine ws_nil ?_
  refine qe_then ?_
  refine wc_seq ?_
  refine wc_plain [(0, .x true), (1, .x true), (2, .x true), (3, .x true), (4, .x true)] (by kernel_rfl) ?_
  refine ws_l rfl rfl rfl rfl (rd_move rfl) ?_
  refine ws_l rfl rfl rfl rfl (rd_move rfl) ?_
  refine ws_callp rfl rfl rfl rfl rfl (En.go) (fun w hp hn ho => indexf_ret v φ κ fd caps del hk hκn hsub ids hsrc hlen w hp hn) ?_
  refine ws_lcmp rfl rfl rfl (rfl) (rfl) (rfl) ?_ ?_
  · intro h8
    refine ws_l rfl rfl rfl rfl (rd_assign rfl) ?_
    refine ws_nil ?_
    refine qe_then ?_
    refine wc_keep [(4, _)] rfl ?_
    refine wc_ret ?_
    refine qe_body _ (.inl rfl) (res1 rfl (RV.tmp rfl)) ?_
    exact ret_end fun w hp hn ho => by simp only [cmpP] at h8; first | rw [idxP_any.1 h8] | rw [idxP_none h8]
  · intro h8
    refine ws_l rfl rfl rfl rfl (rd_assign rfl) ?_
    refine ws_nil ?_
    refine qe_then ?_
    refine wc_keep [(4, _)] rfl ?_
    refine wc_ret ?_
    refine qe_body _ (.inl rfl) (res1 rfl (RV.tmp rfl)) ?_
    exact ret_end fun w hp hn ho => by simp only [cmpP] at h8; first | rw [idxP_any.1 h8] | rw [idxP_none h8]
theorem ids_take {cur : Array Value} {zs : List Id} {n i : Nat} (h : cur.toList.take (n * 32) = idsL zs) (hi : i ≤ n) : cur.toList.take (i * 32) = idsL (zs.take i) := by
  have e : cur.toList.take (i * 32) = (cur.toList.take (n * 32)).take (i * 32) := by rw [List.take_take, Nat.min_eq_left (Nat.mul_le_mul_right 32 hi)]
  rw [e, h]
  exact flat_take idL_len zs i
set_option maxRecDepth 100000 in
set_option maxHeartbeats 1000000 in
theorem deletef_ret (base : Nat) (v : Value) (ν : Heap) (κ : Heap) (fd : Nat) (caps : Array Value) (del : Id → Bool) (hk : IsDel fd caps κ del) (hκn : (κ.map Prod.fst).Nodup) (ids : List Id) (hown : OwnR base 38 32 v ν ids.length (idsL ids)) (hlen : ids.length < 1048576) (w : World) (hφ : HpOK (ν ++ κ) w) (hnd : ((ν ++ κ).map Prod.fst).Nodup) : Ret Try.prog 50 [v, .func (.func fd) #[] caps] w (ν.map Prod.fst) (fun u w' => ∃ (g' : GV) (ν' : Heap), u = g'.v ∧ OwnR base 38 32 g'.v ν' (ids.filter (fun x => !del x)).length (idsL (ids.filter (fun x => !del x))) ∧ HpOK ν' w' ∧ ∀ b ∈ ν'.map Prod.fst, b ∈ ν.map Prod.fst) := by
  refine enter (n := 42) (args := [v, .func (.func fd) #[] caps]) (ν.map Prod.fst) (ν ++ κ) Try.func50 rfl rfl rfl hφ hnd ?_
  refine wc_seq ?_
  refine wc_plain [(0, .x true)] (by kernel_rfl) ?_
  refine ws_l rfl rfl rfl rfl (rd_assign rfl) ?_
  refine ws_nil ?_
  refine qe_then ?_
  refine wc_seq ?_
  refine wc_plain [(0, .x true), (1, .x true), (2, .x true), (3, .x true)] (by kernel_rfl) ?_
  refine ws_l rfl rfl rfl rfl (rd_move rfl) ?_
  refine ws_l rfl rfl rfl rfl (rd_move rfl) ?_
  refine ws_callp rfl rfl rfl rfl rfl (En.go) (fun w hp hn ho => indexf_ret v (ν ++ κ) κ fd caps del hk hκn (fun q hq => List.mem_append_right _ hq) ids (hown.src.mono (fun q hq => List.mem_append_left _ hq)) hlen w hp hn) ?_
  refine ws_l rfl rfl rfl rfl (rd_assign rfl) ?_
  refine ws_nil ?_
  refine qe_then ?_
  refine wc_seq ?_
  refine wc_seq ?_
  refine wc_plain [(0, .x true), (1, .x true)] (by kernel_rfl) ?_
  refine ws_l rfl rfl rfl rfl (rd_move rfl) ?_
  rcases idxP_first (del := del) ids 0 with ⟨hie, hall⟩ | ⟨i0, hi0, hie, hit⟩
  ·
    refine ws_l rfl rfl rfl rfl (rd_cmp_t rfl rfl rfl hie) ?_
    refine ws_nil ?_
    refine qe_then ?_
    refine wc_true rfl ?_
    refine wc_seq ?_
    refine wc_plain [(0, .x true), (1, .x true)] (by kernel_rfl) ?_
    refine ws_l rfl rfl rfl rfl (rd_move rfl) ?_
    refine ws_l rfl rfl rfl rfl (rd_assign rfl) ?_
    refine ws_nil ?_
    refine qe_then ?_
    refine wc_keep [(0, _), (1, _), (4, _), (5, _)] rfl ?_
    refine wc_ret ?_
    refine qe_then_ret ?_
    refine qe_body _ (.inl rfl) (res1 rfl (RV.tmp rfl)) ?_
    obtain ⟨gv, rfl, -⟩ := OwnR.gv hown
    exact ret_end fun w hp hn ho => ⟨gv, ν, rfl, by rw [hall]; exact hown, hp.mono (fun q hq => List.mem_append_left _ hq), fun b hb => hb⟩
  ·
    rw [Nat.zero_add] at hie
    rcases hown with ⟨rfl, rfl, h0, h00⟩ | ⟨g, cap, cur, rfl, rfl, hg3, hg4, hg5, hg6, hg7, hg8⟩
    · omega
    have hz0 : OwnR base 38 32 (.slice (some ⟨g, 0, none⟩) ids.length cap) [(g, .cells cur 38 (0, 0))] ids.length (idsL ids) := .inr ⟨g, cap, cur, rfl, rfl, hg3, hg4, hg5, hg6, hg7, hg8⟩
    rw [hie]
    refine ws_l rfl rfl rfl rfl (rd_cmp_f rfl rfl rfl (by simp only [cmpP]; omega)) ?_
    refine ws_nil ?_
    refine qe_then ?_
    refine wc_false rfl ?_
    refine wc_skip ?_
    refine qe_then ?_
    refine wc_keep [(0, _), (1, _), (4, _), (5, _)] rfl ?_
    refine wc_seq ?_
    refine wc_seq ?_
    refine wc_plain [(0, .x true), (1, .x true), (2, .x true)] (by kernel_rfl) ?_
    refine ws_l rfl rfl rfl rfl (rd_move rfl) ?_
    refine ws_l rfl rfl rfl rfl (rd_arith (((i0 + 1 : Nat) : Int)) rfl rfl rfl (by rw [wrap_i64 _ (by omega) (by omega)]; omega)) ?_
    refine ws_l rfl rfl rfl rfl (rd_assign rfl) ?_
    refine ws_nil ?_
    refine qe_then ?_
    refine wc_block ?_
    refine wc_loop (fun mz ac w1 => ∃ (j : Nat) (i : Nat) (cur : Array Value) (zs : List Id), mz = ids.length - j ∧ (j ≤ ids.length) ∧ (i < j) ∧ (zs.length = ids.length) ∧ (OwnR base 38 32 (.slice (some ⟨g, 0, none⟩) ids.length cap) [(g, .cells cur 38 (0, 0))] ids.length (idsL zs)) ∧ (zs.take i = (ids.take j).filter (fun x => !del x)) ∧ (zs.drop j = ids.drop j) ∧ St 42 w [g] [(0, .slice (some ⟨g, 0, none⟩) ids.length cap), (1, .func (.func fd) #[] caps), (5, I i), (6, I j)] ([(g, .cells cur 38 (0, 0))] ++ κ) ac w1) _ (fun ac w1 hs => ⟨i0 + 1, i0, cur, ids, rfl, (by omega), (by omega), (rfl), (hz0), (hit), (rfl), st_sub hs _ rfl⟩) ?_
    rintro _ ac1 wl1 ⟨j, i, cur, zs, rfl, hj, hij, hzl, hz, htk, hdr, hs1⟩
    refine wc_at hs1 ?_
    refine wc_seq ?_
    refine wc_seq ?_
    refine wc_plain [(0, .x true), (1, .x true), (2, .x true), (3, .x true)] (by kernel_rfl) ?_
    refine ws_l rfl rfl rfl rfl (rd_move rfl) ?_
    refine ws_l rfl rfl rfl rfl (rd_move rfl) ?_
    refine ws_l rfl rfl rfl rfl (rd_len rfl Try.underlying26) ?_
    refine ws_lcmp rfl rfl rfl (rfl) (rfl) (rfl) ?_ ?_
    · intro h19
      refine ws_nil ?_
      refine qe_then ?_
      refine wc_true rfl ?_
      refine wc_skip ?_
      refine qe_then ?_
      refine wc_seq ?_
      refine wc_block ?_
      refine wc_seq ?_
      refine wc_plain [(0, .x true), (1, .x true), (2, .x true), (3, .x true), (4, .x true), (5, .x true)] (by kernel_rfl) ?_
      refine ws_l rfl rfl rfl rfl (rd_move rfl) ?_
      refine ws_l rfl rfl rfl rfl (rd_move rfl) ?_
      have hcu := ids_cur hz
      obtain ⟨x, hx⟩ := at_ex (l := ids) (j := j) (by omega)
      have hzx := at_drop hdr hx
      have atx := ids_get (zs := zs) (fun t ht => hcu.2.2.2.2.2 t (by rw [← hzl]; exact ht)) hzx
      refine ws_l rfl rfl rfl rfl (rd_ix rfl rfl Try.underlying26 Try.sizeOf38 (by omega)) ?_
      refine ws_l rfl rfl rfl rfl (rd_load rfl) ?_
      refine ws_alloc rfl rfl rfl ?_
      intro b7 hb7
      refine ws_store rfl rfl rfl rfl (by first | exact .inl (by assumption) | exact .inr (by simp)) (fun _ h _ => by first | (cases h; done) | exact List.mem_cons_of_mem _ h | exact List.mem_cons_of_mem _ (List.mem_cons_of_mem _ h) | (simp at h ⊢; simp [h])) ?_
      refine ws_nil ?_
      refine qe_then ?_
      refine wc_seq ?_
      refine wc_plain [(0, .x true), (1, .x true), (2, .x true), (3, .x true)] (by kernel_rfl) ?_
      refine ws_l rfl rfl rfl rfl (rd_move rfl) ?_
      refine ws_l rfl rfl rfl rfl (rd_load rfl) ?_
      refine ws_callb (del x) rfl rfl rfl rfl rfl hk.en (fun w hp hn ho => hk.ret x w (hp.mono (fun q hq => by simp [hq])) hκn) ?_ ?_
      · intro hdel
        refine ws_l rfl rfl rfl rfl (rd_not rfl) ?_
        refine ws_nil ?_
        refine qe_then ?_
        refine wc_false rfl ?_
        refine wc_skip ?_
        refine qe_block ?_
        refine qe_then ?_
        refine wc_plain [(0, .x true), (1, .x true), (2, .x true)] (by kernel_rfl) ?_
        refine ws_l rfl rfl rfl rfl (rd_move rfl) ?_
        refine ws_l rfl rfl rfl rfl (rd_arith (((j + 1 : Nat) : Int)) rfl rfl rfl (by rw [wrap_i64 _ (by omega) (by omega)]; omega)) ?_
        refine ws_l rfl rfl rfl rfl (rd_assign rfl) ?_
        refine ws_nil ?_
        exact qe_loop fun ac2 w2 hs2 => ⟨_, by omega, j + 1, i, cur, zs, rfl, (by omega), (by omega), (hzl), (hz), (by rw [htk, take_at hx, List.filter_append]; simp [hdel]), (by rw [← List.drop_drop, hdr, List.drop_drop]), st_sub hs2 _ rfl⟩
      · intro hdel
        refine ws_l rfl rfl rfl rfl (rd_not rfl) ?_
        refine ws_nil ?_
        refine qe_then ?_
        refine wc_true rfl ?_
        refine wc_seq ?_
        refine wc_plain [(0, .x true), (1, .x true), (2, .x true), (3, .x true), (4, .x true)] (by kernel_rfl) ?_
        refine ws_l rfl rfl rfl rfl (rd_move rfl) ?_
        refine ws_l rfl rfl rfl rfl (rd_move rfl) ?_
        refine ws_l rfl rfl rfl rfl (rd_load rfl) ?_
        refine ws_l rfl rfl rfl rfl (rd_ix rfl rfl Try.underlying26 Try.sizeOf38 (by omega)) ?_
        obtain ⟨cur2, hwr, hz2⟩ := ids_set (zs := zs) (by rw [hzl]; exact hz) (i := i) (by omega) x
        refine ws_store (hw := hwr) rfl rfl rfl rfl (.inr (by simp)) (fun _ h _ => by first | (cases h; done) | (simp at h ⊢; simp [h])) ?_
        refine ws_nil ?_
        refine qe_then ?_
        refine wc_plain [(0, .x true), (1, .x true), (2, .x true)] (by kernel_rfl) ?_
        refine ws_l rfl rfl rfl rfl (rd_move rfl) ?_
        refine ws_l rfl rfl rfl rfl (rd_arith (((i + 1 : Nat) : Int)) rfl rfl rfl (by rw [wrap_i64 _ (by omega) (by omega)]; omega)) ?_
        refine ws_l rfl rfl rfl rfl (rd_assign rfl) ?_
        refine ws_nil ?_
        refine qe_block ?_
        refine qe_then ?_
        refine wc_plain [(0, .x true), (1, .x true), (2, .x true)] (by kernel_rfl) ?_
        refine ws_l rfl rfl rfl rfl (rd_move rfl) ?_
        refine ws_l rfl rfl rfl rfl (rd_arith (((j + 1 : Nat) : Int)) rfl rfl rfl (by rw [wrap_i64 _ (by omega) (by omega)]; omega)) ?_
        refine ws_l rfl rfl rfl rfl (rd_assign rfl) ?_
        refine ws_nil ?_
        exact qe_loop fun ac2 w2 hs2 => ⟨_, by omega, j + 1, i + 1, cur2, zs.set i x, rfl, (by omega), (by omega), (by rw [List.length_set]; exact hzl), (by rw [hzl] at hz2; exact hz2), (by rw [take_set_at (by omega), htk, take_at hx, List.filter_append]; simp [hdel]), (by rw [List.drop_set_of_lt (by omega), ← List.drop_drop, hdr, List.drop_drop]), st_sub hs2 _ rfl⟩
    · intro h19
      refine ws_nil ?_
      refine qe_then ?_
      refine wc_false rfl ?_
      refine wc_exit ?_
      refine qe_then_exit ?_
      refine qe_then_exit ?_
      refine qe_block_exit ?_
      refine qe_then ?_
      refine wc_keep [(0, _), (5, _)] rfl ?_
      refine wc_seq ?_
      refine wc_plain [(0, .x true), (1, .x true), (2, .x true), (3, .x true)] (by kernel_rfl) ?_
      refine ws_l rfl rfl rfl rfl (rd_move rfl) ?_
      refine ws_l rfl rfl rfl rfl (rd_move rfl) ?_
      refine ws_l rfl rfl rfl rfl (rd_sliceLo (i * 32) Try.underlying26 rfl rfl Try.sizeOf38 (by omega) (by rw [if_neg (by have := ids_cur hz; omega)]; omega)) ?_
      have hcu := ids_cur hz
      have hjn : j = ids.length := by simp only [cmpP] at h19; omega
      refine ws_clear (k := 32) (z := .agg (idC id0)) rfl rfl rfl Try.underlying26 zero38 (idC_size _) (by omega) (idC_one _) (by omega) (by rw [hcu.2.2.2.1, ← Nat.add_mul]; exact Nat.mul_le_mul_right 32 (by omega)) (.inr (by simp)) (fun _ _ h _ => by cases h) ?_
      intro cur3 hs3 ht3
      refine ws_nil ?_
      refine qe_then ?_
      refine wc_seq ?_
      refine wc_plain [(0, .x true), (1, .x true), (2, .x true), (3, .x true)] (by kernel_rfl) ?_
      refine ws_l rfl rfl rfl rfl (rd_move rfl) ?_
      refine ws_l rfl rfl rfl rfl (rd_move rfl) ?_
      refine ws_l rfl rfl rfl rfl (rd_sliceHi Try.underlying26 rfl rfl Try.sizeOf38 (by omega)) ?_
      refine ws_l rfl rfl rfl rfl (rd_assign rfl) ?_
      refine ws_nil ?_
      refine qe_then ?_
      refine wc_keep [(4, _)] rfl ?_
      refine wc_ret ?_
      refine qe_body _ (.inl rfl) (res1 rfl (RV.tmp rfl)) ?_
      rw [hjn, List.take_of_length_le (Nat.le_refl _)] at htk
      have hil : i = (ids.filter (fun x => !del x)).length := by rw [← htk, List.length_take]; omega
      exact ret_end fun w hp hn ho => ⟨⟨some ⟨g, 0, none⟩, i, cap⟩, [(g, .cells cur3 38 (0, 0))], rfl, .inr ⟨g, cap, cur3, by rw [← hil], rfl, hcu.2.2.1, by omega, hcu.2.1, by rw [hs3]; exact hcu.2.2.2.1, by rw [← hil, ht3, ← htk]; exact ids_take hcu.2.2.2.2.1 (by omega), by rw [flat_len idL_len]⟩, hp.mono (by simp), by simp⟩

end Go.Proofs.Ytaagmgpfpaanlaa
