/- Walks: New, put, Has, Len. No conditions. -/
import Derived.Test.YtheioljidangkaaGreatSet
namespace Go.Proofs.YtheioljidangkaaGreat
open Go Go.RowKit Go.Sx
set_option linter.unusedSimpArgs false
set_option linter.unusedVariables false

set_option maxRecDepth 100000 in
set_option maxHeartbeats 1000000 in
theorem new_ret (w : World) : Ret Tryz.prog 23 [] w [] (fun v w' => ∃ p m k, v = ptr p ∧ w.heap.size ≤ p ∧ w.heap.size ≤ m ∧ w.heap.size ≤ k ∧ ([p, m, k]).Nodup ∧ HpOK (ringP p m k :: ringT m k #[] 0 #[] 0 []) w') := by
  refine enter (n := 5) (args := []) [] [] Tryz.func23 rfl rfl rfl (HpOK.nil w) (by simp) ?_
  refine wc_seq ?_
  refine wc_plain [(0, .x true)] (by kernel_rfl) ?_
  refine ws_l rfl rfl rfl rfl (rd_assign rfl) ?_
  refine ws_nil ?_
  refine qe_then ?_
  refine wc_seq ?_
  refine wc_plain [(0, .x true), (1, .x true), (2, .x true), (3, .x true), (4, .x true)] (by kernel_rfl) ?_
  refine ws_makeMap rfl rfl rfl ?_
  intro b1 hb1
  refine ws_makeMap rfl rfl rfl ?_
  intro b2 hb2
  refine ws_l rfl rfl rfl rfl (rd_build rfl) ?_
  refine ws_box rfl rfl rfl rfl ?_
  intro b4 hb4
  refine ws_l rfl rfl rfl rfl (rd_assign rfl) ?_
  refine ws_nil ?_
  refine qe_then ?_
  refine wc_ret ?_
  refine qe_body _ (.inl rfl) (res1 rfl (RV.tmp rfl)) ?_
  exact ret_end fun w hp hn ho => ⟨b4, b1, b2, rfl, hb4, hb1, hb2, by simp at hn ⊢; omega, hp.mono (by simp)⟩
set_option maxRecDepth 100000 in
set_option maxHeartbeats 1000000 in
theorem hask_ret (p m k : Nat) (es ws : Array MapEntry) (c d : Nat) (L : RMap) (W : WMap) (own : List RK) (hL : MapIs (idK (n := 32)) rkK es c L) (hW : MapIs plE pvE ws d W) (hok : RingOK L W own) (hlen : own.length < 8192) (id : Id) (w : World) (hη : HpOK (ringP p m k :: ringT m k es c ws d (facts W)) w) (hnd : ((ringP p m k :: ringT m k es c ws d (facts W)).map Prod.fst).Nodup) : Ret Tryz.prog 18 [ptr p, idK id] w [] (fun v _ => v = .bool (decide (∃ x ∈ own, x.id = id))) := by
  refine enter (n := 19) (args := [ptr p, idK id]) [] (ringP p m k :: ringT m k es c ws d (facts W)) Tryz.func18 rfl rfl rfl hη hnd ?_
  refine wc_seq ?_
  refine wc_plain [(0, .x true), (1, .x true)] (by kernel_rfl) ?_
  refine ws_box rfl rfl rfl rfl ?_
  intro b3 hb3
  refine ws_l rfl rfl rfl rfl (rd_assign rfl) ?_
  refine ws_nil ?_
  refine qe_then ?_
  refine wc_seq ?_
  refine wc_seq ?_
  refine wc_plain [(0, .x true), (1, .x true)] (by kernel_rfl) ?_
  refine ws_l rfl rfl rfl rfl (rd_move rfl) ?_
  refine ws_l rfl rfl rfl rfl (rd_ptr_nil rfl rfl Tryz.underlying24 rfl) ?_
  refine ws_nil ?_
  refine qe_then ?_
  refine wc_false rfl ?_
  refine wc_skip ?_
  refine qe_then ?_
  refine wc_seq ?_
  refine wc_drawn mixedT _ (fun _ h => h) [(0, .r), (1, .r), (2, .r), (3, .r), (4, .r), (5, .r), (6, .r), (7, .r), (8, .r), (9, .x false), (10, .x false), (11, .x true)] (by kernel_rfl) ?_
  refine ws_r rfl rfl rfl rfl (rd_move rfl) ?_
  refine ws_r rfl rfl rfl rfl (rd_nil rfl) ?_
  refine ws_r rfl rfl rfl rfl (rd_fieldAddr rfl) ?_
  refine ws_r rfl rfl rfl rfl (rd_load rfl) ?_
  refine ws_r rfl rfl rfl rfl (rd_load rfl) ?_
  cases hlk : mlook L id with
  | none =>
    refine ws_r rfl rfl rfl rfl (rd_look2_none (ek := idK (n := 32)) (en := rkK) Tryz.underlying90 hL zero98 hlk rfl rfl) ?_
    refine ws_r rfl rfl rfl rfl (rd_move rfl) ?_
    refine ws_r rfl rfl rfl rfl (rd_extract rfl) ?_
    refine ws_r rfl rfl rfl rfl (rd_extract rfl) ?_
    refine ws_alloc rfl rfl rfl ?_
    intro b5 hb5
    refine ws_store rfl rfl rfl rfl (by first | exact .inl (by assumption) | exact .inr (by simp)) (fun _ h _ => by first | (cases h; done) | exact List.mem_cons_of_mem _ h | exact List.mem_cons_of_mem _ (List.mem_cons_of_mem _ h) | (simp at h ⊢; simp [h])) ?_
    refine ws_late rfl ?_
    refine ws_l rfl rfl rfl rfl (rd_assign rfl) ?_
    refine ws_nil ?_
    refine qe_then ?_
    refine wc_keep [(4, _), (6, _)] rfl ?_
    refine wc_seq ?_
    refine wc_plain [(0, .x true), (1, .x true)] (by kernel_rfl) ?_
    refine ws_l rfl rfl rfl rfl (rd_move rfl) ?_
    refine ws_l rfl rfl rfl rfl (rd_assign rfl) ?_
    refine ws_nil ?_
    refine qe_then ?_
    refine wc_ret ?_
    refine qe_body _ (.inl rfl) (res1 rfl (RV.tmp rfl)) ?_
    exact ret_end fun w hp hn ho => by rw [← hok.isSome, hlk]; rfl
  | some e0 =>
    refine ws_r rfl rfl rfl rfl (rd_look2_some (ek := idK (n := 32)) (en := rkK) Tryz.underlying90 hL hlk rfl rfl) ?_
    refine ws_r rfl rfl rfl rfl (rd_move rfl) ?_
    refine ws_r rfl rfl rfl rfl (rd_extract rfl) ?_
    refine ws_r rfl rfl rfl rfl (rd_extract rfl) ?_
    refine ws_alloc rfl rfl rfl ?_
    intro b5 hb5
    refine ws_store rfl rfl rfl rfl (by first | exact .inl (by assumption) | exact .inr (by simp)) (fun _ h _ => by first | (cases h; done) | exact List.mem_cons_of_mem _ h | exact List.mem_cons_of_mem _ (List.mem_cons_of_mem _ h) | (simp at h ⊢; simp [h])) ?_
    refine ws_late rfl ?_
    refine ws_l rfl rfl rfl rfl (rd_assign rfl) ?_
    refine ws_nil ?_
    refine qe_then ?_
    refine wc_keep [(4, _), (6, _)] rfl ?_
    refine wc_seq ?_
    refine wc_plain [(0, .x true), (1, .x true)] (by kernel_rfl) ?_
    refine ws_l rfl rfl rfl rfl (rd_move rfl) ?_
    refine ws_l rfl rfl rfl rfl (rd_assign rfl) ?_
    refine ws_nil ?_
    refine qe_then ?_
    refine wc_ret ?_
    refine qe_body _ (.inl rfl) (res1 rfl (RV.tmp rfl)) ?_
    exact ret_end fun w hp hn ho => by rw [← hok.isSome, hlk]; rfl
set_option maxRecDepth 100000 in
set_option maxHeartbeats 1000000 in
theorem len_ret (p m k : Nat) (es ws : Array MapEntry) (c d : Nat) (L : RMap) (W : WMap) (own : List RK) (hL : MapIs (idK (n := 32)) rkK es c L) (hW : MapIs plE pvE ws d W) (hok : RingOK L W own) (hlen : own.length < 8192) (w : World) (hη : HpOK (ringP p m k :: ringT m k es c ws d (facts W)) w) (hnd : ((ringP p m k :: ringT m k es c ws d (facts W)).map Prod.fst).Nodup) : Ret Tryz.prog 19 [ptr p] w [] (fun v _ => v = I own.length) := by
  refine enter (n := 10) (args := [ptr p]) [] (ringP p m k :: ringT m k es c ws d (facts W)) Tryz.func19 rfl rfl rfl hη hnd ?_
  refine wc_seq ?_
  refine wc_plain [(0, .x true)] (by kernel_rfl) ?_
  refine ws_l rfl rfl rfl rfl (rd_assign rfl) ?_
  refine ws_nil ?_
  refine qe_then ?_
  refine wc_seq ?_
  refine wc_seq ?_
  refine wc_plain [(0, .x true), (1, .x true)] (by kernel_rfl) ?_
  refine ws_l rfl rfl rfl rfl (rd_move rfl) ?_
  refine ws_l rfl rfl rfl rfl (rd_ptr_nil rfl rfl Tryz.underlying24 rfl) ?_
  refine ws_nil ?_
  refine qe_then ?_
  refine wc_false rfl ?_
  refine wc_skip ?_
  refine qe_then ?_
  refine wc_seq ?_
  refine wc_plain [(0, .x true), (1, .x true), (2, .x true), (3, .x true), (4, .x true), (5, .x true)] (by kernel_rfl) ?_
  refine ws_l rfl rfl rfl rfl (rd_move rfl) ?_
  refine ws_l rfl rfl rfl rfl (rd_nil rfl) ?_
  refine ws_l rfl rfl rfl rfl (rd_fieldAddr rfl) ?_
  refine ws_l rfl rfl rfl rfl (rd_load rfl) ?_
  refine ws_l rfl rfl rfl rfl (rd_lenmap (ek := idK (n := 32)) (en := rkK) hL Tryz.underlying90 rfl) ?_
  refine ws_l rfl rfl rfl rfl (rd_assign rfl) ?_
  refine ws_nil ?_
  refine qe_then ?_
  refine wc_keep [(2, _)] rfl ?_
  refine wc_ret ?_
  refine qe_body _ (.inl rfl) (res1 rfl (RV.tmp rfl)) ?_
  exact ret_end fun w hp hn ho => by rw [hok.len]
theorem atPl_len (own : List RK) (x : Pl) : (atPl own x).length ≤ own.length := List.length_filter_le _ _
theorem okR_pl {r : RK} (h : okR r) : plOK (plOf r) := ⟨⟨h.1.1, by have := h.1.2; simp only [plOf]; omega⟩, h.2.1⟩
set_option maxRecDepth 100000 in
set_option maxHeartbeats 2000000 in
theorem put_ret (p m k : Nat) (es ws : Array MapEntry) (c d : Nat) (L : RMap) (W : WMap) (own : List RK) (hL : MapIs (idK (n := 32)) rkK es c L) (hW : MapIs plE pvE ws d W) (hok : RingOK L W own) (hlen : own.length < 8192) (r : RK) (hr : okR r) (hf : mlook L r.id = none) (w : World) (hη : HpOK (ringP p m k :: ringT m k es c ws d (facts W)) w) (hnd : ((ringP p m k :: ringT m k es c ws d (facts W)).map Prod.fst).Nodup) : Ret Tryz.prog 37 [ptr p, rkK r] w ((ringT m k es c ws d (facts W)).map Prod.fst) (fun _ w' => RingTo m k (own ++ [r]) (ringT m k es c ws d (facts W)) w w') := by
  let x : PlK := ⟨plOf r, okR_pl hr⟩
  have hxe : some (Value.agg (plC ⟨r.au, r.n, r.p⟩)) = some (plE x) := rfl
  obtain ⟨gv, νv, rest, hown0, hperm, hval, hfin⟩ := hok.split hW.keysNd x
  have hperm3 : (ringP p m k :: ringT m k es c ws d (facts W)).Perm (ringP p m k :: ringT m k es c ws d (νv ++ rest)) := ((hperm.cons _).cons _).cons _
  have hη2 : HpOK (ringP p m k :: ringT m k es c ws d (νv ++ rest)) w := hη.mono fun q hq => hperm3.mem_iff.2 hq
  have hnd2 := (hperm3.map Prod.fst).nodup_iff.1 hnd
  have hsub : ∀ b ∈ νv.map Prod.fst, b ∈ (ringT m k es c ws d (facts W)).map Prod.fst := fun b hb => List.mem_cons_of_mem _ (List.mem_cons_of_mem _ ((hperm.map Prod.fst).mem_iff.2 (by rw [List.map_append]; exact List.mem_append_left _ hb)))
  refine enter (n := 23) (args := [ptr p, rkK r]) ((ringT m k es c ws d (facts W)).map Prod.fst) (ringP p m k :: ringT m k es c ws d (νv ++ rest)) Tryz.func37 rfl rfl rfl hη2 hnd2 ?_
  refine wc_seq ?_
  refine wc_plain [(0, .x true)] (by kernel_rfl) ?_
  refine ws_box rfl rfl rfl rfl ?_
  intro b3 hb3
  refine ws_nil ?_
  refine qe_then ?_
  refine wc_seq ?_
  refine wc_drawn mixedT _ (fun _ h => h) [(0, .r), (1, .r), (2, .r), (3, .r), (4, .r), (5, .r), (6, .r), (7, .x true)] (by kernel_rfl) ?_
  refine ws_r rfl rfl rfl rfl (rd_move rfl) ?_
  refine ws_r rfl rfl rfl rfl (rd_nil rfl) ?_
  refine ws_r rfl rfl rfl rfl (rd_fieldAddr rfl) ?_
  refine ws_r rfl rfl rfl rfl (rd_load rfl) ?_
  refine ws_r rfl rfl rfl rfl (rd_fieldAddr rfl) ?_
  refine ws_r rfl rfl rfl rfl (rd_load rfl) ?_
  refine ws_r rfl rfl rfl rfl (rd_load rfl) ?_
  refine ws_late rfl ?_
  refine ws_update (ek := idK (n := 32)) (en := rkK) (a := r.id) (b := r) Tryz.underlying90 hL rfl rfl rfl rfl rfl (.inr (by simp)) ?_
  intro es1 c1 hL1
  refine ws_nil ?_
  refine qe_then ?_
  refine wc_keep [(0, _), (3, _)] rfl ?_
  refine wc_drawn mixedT [(b3, .cells (rkC r) 98 (0, 0)), ringP p m k] (fun q hq => by simp at hq ⊢; rcases hq with rfl | rfl <;> simp) [(0, .r), (1, .r), (2, .r), (3, .r), (4, .r), (5, .r), (6, .r), (7, .x false), (8, .x false), (9, .r), (11, .r), (10, .x false), (12, .x true)] (by kernel_rfl) ?_
  refine ws_r rfl rfl rfl rfl (rd_move rfl) ?_
  refine ws_r rfl rfl rfl rfl (rd_nil rfl) ?_
  refine ws_r rfl rfl rfl rfl (rd_fieldAddr rfl) ?_
  refine ws_r rfl rfl rfl rfl (rd_load rfl) ?_
  refine ws_r rfl rfl rfl rfl (rd_fieldAddr rfl) ?_
  refine ws_r rfl rfl rfl rfl (rd_load rfl) ?_
  refine ws_r rfl rfl rfl rfl (rd_load rfl) ?_
  refine ws_buildSlice rfl rfl rfl rfl ?_
  intro b19 hb19
  refine ws_mapEntry (ek := plE) (en := pvE) (a := x) Tryz.underlying91 hW pv0 (fun w => Tryz.zeroValue104 w) rfl rfl rfl rfl hxe (.inr (by simp)) (fun es cl q h _ => by simp only [List.mem_cons, List.not_mem_nil, or_false] at h; rcases h with rfl | rfl <;> simp) ?_
  intro ws1 d1 stp hW1 hop
  rw [hval]
  refine ws_r rfl rfl rfl rfl (rd_extract rfl) ?_
  refine ws_r rfl rfl rfl rfl (rd_extract rfl) ?_
  refine ws_appendB (base := 0) rfl rfl rfl rfl rfl hown0 (by simp [rkC_size]) (rkC_one r) (Nat.zero_le _) (fun b hb => .inr (hsub b hb)) (by have := atPl_len own x.1; simp only [maxLen]; omega) (by have := atPl_len own x.1; omega) (fun _ _ q h => by simp only [List.mem_cons, List.not_mem_nil, or_false] at h; rcases h with rfl | rfl <;> simp) ?_
  intro v4 ν4 hown4 hfar4
  obtain ⟨g4, rfl, -⟩ := OwnR.gv hown4
  have hrow4 : rowsOK g4 ν4 (atPl own x.1 ++ [r]) := Row.app (enc := rkL) (ys := [r]) hown4 rfl (by simp)
  refine ws_late rfl ?_
  refine ws_entryStore (ek := plE) (en := pvE) (K := 96) (a := x) (b := (⟨g4, ν4, atPl own x.1 ++ [r]⟩ : PV)) hW1 hop rfl rfl rfl rfl rfl (.inr (by simp)) (fun es q h _ => by first | (cases h; done) | (simp only [List.mem_cons, List.not_mem_nil, or_false] at h; rcases h with rfl | rfl <;> simp)) ?_
  intro ws2 hW2
  rw [upd_upd] at hW2
  refine ws_nil ?_
  refine qe_body _ (.inr rfl) (res0 rfl) ?_
  have hpm := hfin g4 ν4 (atPl own x.1 ++ [r])
  have hsubs : ∀ q ∈ ringT m k es1 c1 ws2 d1 (facts (upd W x ⟨g4, ν4, atPl own x.1 ++ [r]⟩)), q ∈ ringT m k es1 c1 ws2 d1 (ν4 ++ rest) := fun q hq => by simp only [List.mem_cons, hpm.mem_iff] at hq ⊢; exact hq
  refine ret_end fun w hp hn ho => ⟨es1, c1, ws2, d1, _, _, (hp.mono (SubH.mem (η' := ringT m k es1 c1 ws2 d1 (ν4 ++ rest)))).mono hsubs, ?_, ?_, hL1, hW2, hok.put hr hf x rfl hrow4⟩
  · have h1 := SubH.nd (η' := ringT m k es1 c1 ws2 d1 (ν4 ++ rest)) hn
    exact ((hpm.cons _).cons _ |>.map Prod.fst).nodup_iff.2 h1
  · intro b hb
    have hb2 := ((hpm.cons _).cons _ |>.map Prod.fst).mem_iff.1 hb
    simp only [List.map_cons, List.mem_cons, List.map_append, List.mem_append] at hb2
    rcases hb2 with rfl | rfl | hb2 | hb2
    · exact .inr (by simp)
    · exact .inr (by simp)
    · exact (hfar4 b hb2).imp id (hsub b)
    · exact .inr (List.mem_cons_of_mem _ (List.mem_cons_of_mem _ ((hperm.map Prod.fst).mem_iff.2 (by rw [List.map_append]; exact List.mem_append_right _ hb2))))

end Go.Proofs.YtheioljidangkaaGreat
