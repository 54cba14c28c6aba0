/- Walk: known. No conditions. -/
import Derived.Test.YtheioljidangkaaGreatKnw
namespace Go.Proofs.YtheioljidangkaaGreat
open Go Go.RowKit Go.Sx
set_option linter.unusedSimpArgs false
set_option linter.unusedVariables false

set_option maxRecDepth 100000 in
set_option maxHeartbeats 8000000 in
theorem known_ret (w : World) : Ret Tryz.prog 5 [] w [] (fun v _ => v = .bool true) := by
  refine enter (n := 138) (args := []) [] [] Tryz.func5 rfl rfl rfl (HpOK.nil w) (by simp) ?_
  refine wc_seq ?_
  refine wc_plain [(0, .x true)] (by kernel_rfl) ?_
  refine ws_l rfl rfl rfl rfl (rd_assign rfl) ?_
  refine ws_nil ?_
  refine qe_then ?_
  refine wc_seq ?_
  refine wc_plain [(0, .x true), (1, .x true)] (by kernel_rfl) ?_
  refine ws_call rfl rfl rfl rfl rfl (En.go) (fun w hp hn ho => new_ret w) (fun _ h => by cases h) (fun hh q h => by first | (cases h; done) | exact hh q h) ?_
  rintro v12 wa wb hpo hon hon2 hp1 ⟨p, m, k, rfl, hp0, hm0, hk0, hnd0, hph⟩
  refine ⟨_, hph, by simpa using hnd0, fun b hb => by simp at hb; rcases hb with rfl | rfl | rfl; exact .inl hp0; exact .inl hm0; exact .inl hk0, ?_⟩
  replace hp0 := Nat.le_trans hon.size hp0
  replace hm0 := Nat.le_trans hon.size hm0
  replace hk0 := Nat.le_trans hon.size hk0
  simp only [List.cons_append, List.nil_append]
  refine ws_l rfl rfl rfl rfl (rd_assign rfl) ?_
  refine ws_nil ?_
  refine qe_then ?_
  refine wc_seq ?_
  refine wc_seq ?_
  refine wc_plain [(0, .x true), (1, .x true)] (by kernel_rfl) ?_
  refine ws_l rfl rfl rfl rfl (rd_move rfl) ?_
  refine ws_l rfl rfl rfl rfl (rd_ptr_nil rfl rfl Tryz.underlying24 rfl) ?_
  refine ws_nil ?_
  refine qe_then ?_
  refine wc_false rfl ?_
  refine wc_skip ?_
  refine qe_then ?_
  refine wc_seq ?_
  refine wc_plain [(0, .x true), (1, .x true), (2, .x true), (3, .x true), (4, .x true), (5, .x true), (6, .x true), (7, .x true), (8, .x true)] (by kernel_rfl) ?_
  refine ws_callp rfl rfl rfl rfl rfl (En.go) (fun w hp hn ho => public_ret 2 w) ?_
  refine ws_callp rfl rfl rfl rfl rfl (En.go) (fun w hp hn ho => public_ret 3 w) ?_
  refine ws_callp rfl rfl rfl rfl rfl (En.go) (fun w hp hn ho => public_ret 4 w) ?_
  refine ws_alloc rfl rfl rfl ?_
  intro b2 hb2
  refine ws_alloc rfl rfl rfl ?_
  intro b3 hb3
  refine ws_alloc rfl rfl rfl ?_
  intro b4 hb4
  refine ws_store rfl rfl rfl rfl (by first | exact .inl (by assumption) | exact .inr (by simp)) (fun _ h _ => by first | (cases h; done) | exact List.mem_cons_of_mem _ h | exact List.mem_cons_of_mem _ (List.mem_cons_of_mem _ h) | (simp at h ⊢; simp [h])) ?_
  refine ws_store rfl rfl rfl rfl (by first | exact .inl (by assumption) | exact .inr (by simp)) (fun _ h _ => by first | (cases h; done) | exact List.mem_cons_of_mem _ h | exact List.mem_cons_of_mem _ (List.mem_cons_of_mem _ h) | (simp at h ⊢; simp [h])) ?_
  refine ws_store rfl rfl rfl rfl (by first | exact .inl (by assumption) | exact .inr (by simp)) (fun _ h _ => by first | (cases h; done) | exact List.mem_cons_of_mem _ h | exact List.mem_cons_of_mem _ (List.mem_cons_of_mem _ h) | (simp at h ⊢; simp [h])) ?_
  refine ws_nil ?_
  refine qe_then ?_
  refine wc_keep [(0, _), (1, _), (2, _), (3, _), (4, _)] rfl ?_
  refine wc_seq ?_
  refine wc_plain [(0, .x true), (1, .x true), (2, .x true), (3, .x true)] (by kernel_rfl) ?_
  refine ws_l rfl rfl rfl rfl (rd_load rfl) ?_
  refine ws_callp rfl rfl rfl rfl rfl (En.go) (fun w hp hn ho => of_ref xP w) ?_
  refine ws_alloc rfl rfl rfl ?_
  intro b5 hb5
  refine ws_store rfl rfl rfl rfl (by first | exact .inl (by assumption) | exact .inr (by simp)) (fun _ h _ => by first | (cases h; done) | exact List.mem_cons_of_mem _ h | exact List.mem_cons_of_mem _ (List.mem_cons_of_mem _ h) | (simp at h ⊢; simp [h])) ?_
  refine ws_nil ?_
  refine qe_then ?_
  refine wc_seq ?_
  refine wc_drawn mixedT _ (fun _ h => h) [(0, .r), (1, .r), (2, .r), (3, .r), (6, .r), (4, .x false), (5, .r), (7, .x false), (8, .r), (9, .x true), (10, .x true)] (by kernel_rfl) ?_
  refine ws_r rfl rfl rfl rfl (rd_move rfl) ?_
  refine ws_r rfl rfl rfl rfl (rd_build rfl) ?_
  refine ws_r rfl rfl rfl rfl (rd_load rfl) ?_
  refine ws_r rfl rfl rfl rfl (rd_load rfl) ?_
  refine ws_r rfl rfl rfl rfl (rd_load rfl) ?_
  refine ws_callp rfl rfl rfl rfl rfl (En.go) (fun w hp hn ho => to_ret _ w) ?_
  refine ws_r rfl rfl rfl rfl (rd_build rfl) ?_
  refine ws_callp rfl rfl rfl rfl rfl (En.go) (fun w hp hn ho => to_ret _ w) ?_
  refine ws_r rfl rfl rfl rfl (rd_build rfl) ?_
  refine ws_late rfl ?_
  refine ws_callV (ringT m k #[] 0 #[] 0 (facts [])) rfl rfl rfl rfl rfl (En.go) (fun w hp hn ho => add_ret p m k #[] #[] 0 0 [] [] [] (MapIs.empty _ _ 0) (MapIs.empty _ _ 0) RingOK.empty (by simp) i1 ⟨ofF xP, 0, xP, 7, ⟨#[]⟩⟩ ⟨5, 1, xQ⟩ w (hp.mono SubH.mem) (SubH.nd hn)) (fun b hb => .inl ((fun hb => by simp [facts] at hb; rcases hb with rfl | rfl; exact hm0; exact hk0) hb)) (fun hh q h => by first | (cases h; done) | exact hh q h | (simp only [List.mem_append, List.mem_cons] at h ⊢; grind) | skip) ?_
  rintro v29 wa wb hpo hon hon2 hp1 ⟨he1, es1, c1, ws1, d1, L1, W1, hp1, hnd1, hfar1, hL1, hW1, hok1⟩
  replace he1 : v29 = I (addE [] r1 5 1) := he1
  rw [kE1] at he1
  replace hok1 : RingOK L1 W1 (addO [] r1 5 1) := hok1
  rw [kO1] at hok1
  subst he1
  refine ⟨ringT m k es1 c1 ws1 d1 (facts W1), hp1, hnd1, hfar1, ?_⟩
  simp only [List.cons_append]
  have hfr1 : ∀ b ∈ (ringT m k es1 c1 ws1 d1 (facts W1)).map Prod.fst, w.heap.size ≤ b := fun b hb => (hfar1 b hb).elim (fun h => Nat.le_trans hon.size h) ((fun hb => by simp [facts] at hb; rcases hb with rfl | rfl; exact hm0; exact hk0))
  refine ws_l rfl rfl rfl rfl (rd_assign rfl) ?_
  refine ws_nil ?_
  refine qe_then ?_
  refine wc_keep [(0, _), (1, _), (2, _), (3, _), (4, _), (5, _), (6, _)] rfl ?_
  refine wc_seq ?_
  refine wc_plain [(0, .x true), (1, .x true), (2, .x true), (3, .x true)] (by kernel_rfl) ?_
  refine ws_l rfl rfl rfl rfl (rd_move rfl) ?_
  refine ws_l rfl rfl rfl rfl (rd_load rfl) ?_
  refine ws_call rfl rfl rfl rfl rfl (En.go) (fun w hp hn ho => chain_ret p m k es1 ws1 c1 d1 L1 W1 [r1] hL1 hW1 hok1 (by simp) (ofF xP) w (hp.mono SubH.mem) (SubH.nd hn)) (fun _ h => by cases h) (fun hh q h => by first | (cases h; done) | exact hh q h) ?_
  rintro v32 wa wb hpo hon hon2 hp1 ⟨g7, ν7, rfl, hown7, hν7⟩
  refine ⟨ν7, hν7, hown7.nd, fun b hb => .inl (hown7.far b hb), ?_⟩
  replace hown7 := hown7.mono hon.size
  rw [kC1] at hown7
  obtain ⟨gA7, gn7, gc7⟩ := g7
  obtain ⟨b7, cap7, cur7, hv7, rfl, hb7, hcap7, hcur7⟩ := OwnR.opened hown7 (by simp)
  simp only [Value.slice.injEq] at hv7
  obtain ⟨rfl, rfl, rfl⟩ := hv7
  have hc7 : ∀ i v, ([k0, k1].flatMap kkL)[i]? = some v → cur7[0 + i]? = some v := fun i v hv => by rw [Nat.zero_add, hcur7 i (by have := (List.getElem?_eq_some_iff.1 hv).1; rw [flat_len kkL_len] at this; exact this), hv]
  have at0 : AtK cur7 (0 + 0 * 51) k0 := at_kk hc7 rfl
  have at1 : AtK cur7 (0 + 1 * 51) k1 := at_kk hc7 rfl
  refine ws_l rfl rfl rfl rfl (rd_assign rfl) ?_
  refine ws_nil ?_
  refine qe_then ?_
  refine wc_seq ?_
  refine wc_seq ?_
  refine wc_drawn mixedT _ (fun _ h => h) [(0, .r), (1, .r), (2, .r), (3, .r), (4, .r), (5, .r), (6, .r), (7, .r), (8, .r), (9, .r), (10, .r), (11, .r), (13, .r), (12, .x false), (14, .r), (15, .r), (16, .r), (17, .r), (18, .r), (19, .r), (20, .r), (21, .r), (22, .x false), (23, .r), (24, .x true), (25, .x true)] (by kernel_rfl) ?_
  refine ws_r rfl rfl rfl rfl (rd_move rfl) ?_
  refine ws_r rfl rfl rfl rfl (rd_cmp_f rfl rfl rfl (by simp [cmpP])) ?_
  refine ws_r rfl rfl rfl rfl (rd_move rfl) ?_
  refine ws_r rfl rfl rfl rfl (rd_move rfl) ?_
  refine ws_r rfl rfl rfl rfl (rd_len rfl Tryz.underlying47) ?_
  refine ws_r rfl rfl rfl rfl (rd_cmp_f rfl rfl rfl (by simp [cmpP])) ?_
  refine ws_r rfl rfl rfl rfl (rd_pick_f rfl rfl) ?_
  refine ws_r rfl rfl rfl rfl (rd_move rfl) ?_
  refine ws_r rfl rfl rfl rfl (rd_move rfl) ?_
  refine ws_r rfl rfl rfl rfl (rd_index (0 + 0 * 51) rfl rfl Tryz.underlying47 Tryz.sizeOf39 ⟨by omega, by simp⟩ (by simp)) ?_
  refine ws_r rfl rfl rfl rfl (rd_load rfl) ?_
  refine ws_r rfl rfl rfl rfl (rd_load rfl) ?_
  refine ws_r rfl rfl rfl rfl (rd_build rfl) ?_
  refine ws_callp rfl rfl rfl rfl rfl (En.go) (fun w hp hn ho => to_ret _ w) ?_
  refine ws_r rfl rfl rfl rfl (rd_build rfl) ?_
  refine ws_r rfl rfl rfl rfl (rd_kk_f rfl rfl rfl) ?_
  refine ws_r rfl rfl rfl rfl (rd_pick_f rfl rfl) ?_
  refine ws_r rfl rfl rfl rfl (rd_move rfl) ?_
  refine ws_r rfl rfl rfl rfl (rd_move rfl) ?_
  refine ws_r rfl rfl rfl rfl (rd_index (0 + 1 * 51) rfl rfl Tryz.underlying47 Tryz.sizeOf39 ⟨by omega, by simp⟩ (by simp)) ?_
  refine ws_r rfl rfl rfl rfl (rd_load rfl) ?_
  refine ws_r rfl rfl rfl rfl (rd_load rfl) ?_
  refine ws_callp rfl rfl rfl rfl rfl (En.go) (fun w hp hn ho => to_ret _ w) ?_
  refine ws_r rfl rfl rfl rfl (rd_build rfl) ?_
  refine ws_late rfl ?_
  refine ws_l rfl rfl rfl rfl (rd_kk_f rfl rfl rfl) ?_
  refine ws_l rfl rfl rfl rfl (rd_pick_f rfl rfl) ?_
  refine ws_nil ?_
  refine qe_then ?_
  refine wc_keep [(0, _), (1, _), (2, _), (4, _), (5, _), (58, _)] rfl ?_
  refine wc_false rfl ?_
  refine wc_skip ?_
  refine qe_then ?_
  refine wc_seq ?_
  refine wc_drawn mixedT _ (fun _ h => h) [(0, .r), (1, .r), (2, .r), (4, .r), (3, .x false), (5, .x false), (6, .r), (7, .r), (8, .r), (9, .r), (10, .r), (12, .r), (11, .x false), (13, .x false), (14, .r), (15, .r), (16, .r), (17, .r), (18, .r), (19, .r), (21, .r), (20, .x false), (22, .x false), (23, .r), (24, .r), (25, .r), (26, .r), (27, .r), (28, .r), (30, .r), (29, .x false), (31, .x false), (32, .r), (33, .r), (34, .r), (35, .r), (36, .r), (37, .r), (39, .r), (38, .x false), (40, .x false), (41, .r), (42, .r), (43, .x true)] (by kernel_rfl) ?_
  refine ws_r rfl rfl rfl rfl (rd_move rfl) ?_
  refine ws_r rfl rfl rfl rfl (rd_load rfl) ?_
  refine ws_r rfl rfl rfl rfl (rd_load rfl) ?_
  refine ws_r rfl rfl rfl rfl (rd_build rfl) ?_
  refine ws_callp rfl rfl rfl rfl rfl (En.go) (fun w hp hn ho => to_ret _ w) ?_
  refine ws_callp rfl rfl rfl rfl rfl (En.go) (fun w hp hn ho => by have h := judge_ret p m k es1 ws1 c1 d1 L1 W1 [r1] hL1 hW1 hok1 (by simp) (ofF xP) 0 xP 3 id0 w (hp.mono SubH.mem) (SubH.nd hn); rw [kJ1] at h; exact h) ?_
  refine ws_r rfl rfl rfl rfl (rd_cmp_t rfl rfl rfl (by simp [cmpP])) ?_
  refine ws_r rfl rfl rfl rfl (rd_move rfl) ?_
  refine ws_r rfl rfl rfl rfl (rd_move rfl) ?_
  refine ws_r rfl rfl rfl rfl (rd_load rfl) ?_
  refine ws_r rfl rfl rfl rfl (rd_load rfl) ?_
  refine ws_r rfl rfl rfl rfl (rd_build rfl) ?_
  refine ws_callp rfl rfl rfl rfl rfl (En.go) (fun w hp hn ho => to_ret _ w) ?_
  refine ws_callp rfl rfl rfl rfl rfl (En.go) (fun w hp hn ho => by have h := judge_ret p m k es1 ws1 c1 d1 L1 W1 [r1] hL1 hW1 hok1 (by simp) (ofF xP) 0 xP 7 i1 w (hp.mono SubH.mem) (SubH.nd hn); rw [kJ2] at h; exact h) ?_
  refine ws_r rfl rfl rfl rfl (rd_cmp_t rfl rfl rfl (by simp [cmpP])) ?_
  refine ws_r rfl rfl rfl rfl (rd_pick_t rfl rfl) ?_
  refine ws_r rfl rfl rfl rfl (rd_move rfl) ?_
  refine ws_r rfl rfl rfl rfl (rd_move rfl) ?_
  refine ws_r rfl rfl rfl rfl (rd_load rfl) ?_
  refine ws_r rfl rfl rfl rfl (rd_load rfl) ?_
  refine ws_r rfl rfl rfl rfl (rd_build rfl) ?_
  refine ws_callp rfl rfl rfl rfl rfl (En.go) (fun w hp hn ho => to_ret _ w) ?_
  refine ws_callp rfl rfl rfl rfl rfl (En.go) (fun w hp hn ho => by have h := judge_ret p m k es1 ws1 c1 d1 L1 W1 [r1] hL1 hW1 hok1 (by simp) (ofF xP) 0 xP 7 id0 w (hp.mono SubH.mem) (SubH.nd hn); rw [kJ3] at h; exact h) ?_
  refine ws_r rfl rfl rfl rfl (rd_cmp_t rfl rfl rfl (by simp [cmpP])) ?_
  refine ws_r rfl rfl rfl rfl (rd_pick_t rfl rfl) ?_
  refine ws_r rfl rfl rfl rfl (rd_move rfl) ?_
  refine ws_r rfl rfl rfl rfl (rd_move rfl) ?_
  refine ws_r rfl rfl rfl rfl (rd_load rfl) ?_
  refine ws_r rfl rfl rfl rfl (rd_load rfl) ?_
  refine ws_r rfl rfl rfl rfl (rd_build rfl) ?_
  refine ws_callp rfl rfl rfl rfl rfl (En.go) (fun w hp hn ho => to_ret _ w) ?_
  refine ws_callp rfl rfl rfl rfl rfl (En.go) (fun w hp hn ho => by have h := judge_ret p m k es1 ws1 c1 d1 L1 W1 [r1] hL1 hW1 hok1 (by simp) (ofF xP) 1 xP 0 id0 w (hp.mono SubH.mem) (SubH.nd hn); rw [kJ4] at h; exact h) ?_
  refine ws_r rfl rfl rfl rfl (rd_cmp_t rfl rfl rfl (by simp [cmpP])) ?_
  refine ws_r rfl rfl rfl rfl (rd_pick_t rfl rfl) ?_
  refine ws_r rfl rfl rfl rfl (rd_move rfl) ?_
  refine ws_r rfl rfl rfl rfl (rd_move rfl) ?_
  refine ws_r rfl rfl rfl rfl (rd_load rfl) ?_
  refine ws_r rfl rfl rfl rfl (rd_load rfl) ?_
  refine ws_r rfl rfl rfl rfl (rd_build rfl) ?_
  refine ws_callp rfl rfl rfl rfl rfl (En.go) (fun w hp hn ho => to_ret _ w) ?_
  refine ws_callp rfl rfl rfl rfl rfl (En.go) (fun w hp hn ho => by have h := judge_ret p m k es1 ws1 c1 d1 L1 W1 [r1] hL1 hW1 hok1 (by simp) (ofF xP) 2 xP 0 id0 w (hp.mono SubH.mem) (SubH.nd hn); rw [kJ5] at h; exact h) ?_
  refine ws_r rfl rfl rfl rfl (rd_cmp_t rfl rfl rfl (by simp [cmpP])) ?_
  refine ws_r rfl rfl rfl rfl (rd_pick_t rfl rfl) ?_
  refine ws_late rfl ?_
  refine ws_l rfl rfl rfl rfl (rd_assign rfl) ?_
  refine ws_nil ?_
  refine qe_then ?_
  refine wc_keep [(0, _), (1, _), (2, _), (4, _), (5, _), (8, _)] rfl ?_
  refine wc_seq ?_
  refine wc_drawn mixedT _ (fun _ h => h) [(0, .r), (1, .r), (2, .r), (3, .r), (6, .r), (4, .x false), (5, .r), (7, .x false), (8, .r), (9, .x true), (10, .x true)] (by kernel_rfl) ?_
  refine ws_r rfl rfl rfl rfl (rd_move rfl) ?_
  refine ws_r rfl rfl rfl rfl (rd_build rfl) ?_
  refine ws_r rfl rfl rfl rfl (rd_load rfl) ?_
  refine ws_r rfl rfl rfl rfl (rd_load rfl) ?_
  refine ws_r rfl rfl rfl rfl (rd_load rfl) ?_
  refine ws_callp rfl rfl rfl rfl rfl (En.go) (fun w hp hn ho => to_ret _ w) ?_
  refine ws_r rfl rfl rfl rfl (rd_build rfl) ?_
  refine ws_callp rfl rfl rfl rfl rfl (En.go) (fun w hp hn ho => to_ret _ w) ?_
  refine ws_r rfl rfl rfl rfl (rd_build rfl) ?_
  refine ws_late rfl ?_
  refine ws_callV (ringT m k es1 c1 ws1 d1 (facts W1)) rfl rfl rfl rfl rfl (En.go) (fun w hp hn ho => add_ret p m k es1 ws1 c1 d1 L1 W1 [r1] hL1 hW1 hok1 (by simp) i2 ⟨ofF xP, 0, xP, 5, ⟨#[]⟩⟩ ⟨5, 1, xS⟩ w (hp.mono SubH.mem) (SubH.nd hn)) (fun b hb => .inl (hfr1 b hb)) (fun hh q h => by first | (cases h; done) | exact hh q h | (simp only [List.mem_append, List.mem_cons] at h ⊢; grind) | skip) ?_
  rintro v111 wa wb hpo hon hon2 hp1 ⟨he2, es2, c2, ws2, d2, L2, W2, hp2, hnd2, hfar2, hL2, hW2, hok2⟩
  replace he2 : v111 = I (addE [r1] r2 5 1) := he2
  rw [kE2] at he2
  replace hok2 : RingOK L2 W2 (addO [r1] r2 5 1) := hok2
  rw [kO2] at hok2
  subst he2
  refine ⟨ringT m k es2 c2 ws2 d2 (facts W2), hp2, hnd2, hfar2, ?_⟩
  simp only [List.cons_append]
  have hfr2 : ∀ b ∈ (ringT m k es2 c2 ws2 d2 (facts W2)).map Prod.fst, w.heap.size ≤ b := fun b hb => (hfar2 b hb).elim (fun h => Nat.le_trans hon.size h) (hfr1 b)
  refine ws_l rfl rfl rfl rfl (rd_assign rfl) ?_
  refine ws_nil ?_
  refine qe_then ?_
  refine wc_keep [(0, _), (1, _), (4, _), (5, _), (8, _), (9, _)] rfl ?_
  refine wc_seq ?_
  refine wc_plain [(0, .x true), (1, .x true), (2, .x true), (3, .x true), (4, .x true), (5, .x true), (6, .x true), (7, .x true), (8, .x true)] (by kernel_rfl) ?_
  refine ws_l rfl rfl rfl rfl (rd_move rfl) ?_
  refine ws_l rfl rfl rfl rfl (rd_load rfl) ?_
  refine ws_callp rfl rfl rfl rfl rfl (En.go) (fun w hp hn ho => by have h := key_ret p m k es2 ws2 c2 d2 L2 W2 [r1, r2] hL2 hW2 hok2 (by simp) (ofF xP) 1 w (hp.mono SubH.mem) (SubH.nd hn); rw [kK3] at h; exact h) ?_
  refine ws_l rfl rfl rfl rfl (rd_move rfl) ?_
  refine ws_l rfl rfl rfl rfl (rd_extract rfl) ?_
  refine ws_l rfl rfl rfl rfl (rd_extract rfl) ?_
  refine ws_alloc rfl rfl rfl ?_
  intro b10 hb10
  refine ws_store rfl rfl rfl rfl (by first | exact .inl (by assumption) | exact .inr (by simp)) (fun _ h _ => by first | (cases h; done) | exact List.mem_cons_of_mem _ h | exact List.mem_cons_of_mem _ (List.mem_cons_of_mem _ h) | (simp at h ⊢; simp [h])) ?_
  refine ws_l rfl rfl rfl rfl (rd_assign rfl) ?_
  refine ws_nil ?_
  refine qe_then ?_
  refine wc_keep [(0, _), (1, _), (4, _), (8, _), (9, _), (10, _), (11, _)] rfl ?_
  refine wc_seq ?_
  refine wc_drawn mixedT _ (fun _ h => h) [(0, .r), (1, .r), (2, .r), (3, .r), (4, .r), (5, .r), (6, .r), (7, .r), (8, .r), (9, .r), (10, .r), (11, .r), (12, .x false), (13, .x true), (14, .x true), (15, .x true), (16, .x true), (17, .x true), (18, .x true), (19, .x true), (20, .x true)] (by kernel_rfl) ?_
  refine ws_r rfl rfl rfl rfl (rd_move rfl) ?_
  refine ws_r rfl rfl rfl rfl (rd_move rfl) ?_
  refine ws_r rfl rfl rfl rfl (rd_move rfl) ?_
  refine ws_r rfl rfl rfl rfl (rd_cmp_t rfl rfl rfl (by simp [cmpP])) ?_
  refine ws_r rfl rfl rfl rfl (rd_pick_t rfl rfl) ?_
  refine ws_r rfl rfl rfl rfl (rd_move rfl) ?_
  refine ws_r rfl rfl rfl rfl (rd_move rfl) ?_
  refine ws_r rfl rfl rfl rfl (rd_pick_t rfl rfl) ?_
  refine ws_r rfl rfl rfl rfl (rd_move rfl) ?_
  refine ws_r rfl rfl rfl rfl (rd_fieldAddr rfl) ?_
  refine ws_r rfl rfl rfl rfl (rd_load rfl) ?_
  refine ws_r rfl rfl rfl rfl (rd_load rfl) ?_
  refine ws_callp rfl rfl rfl rfl rfl (En.go) (fun w hp hn ho => to_ret _ w) ?_
  refine ws_late rfl ?_
  refine ws_l rfl rfl rfl rfl (rd_pub_t rfl rfl rfl) ?_
  refine ws_l rfl rfl rfl rfl (rd_pick_t rfl rfl) ?_
  refine ws_l rfl rfl rfl rfl (rd_move rfl) ?_
  refine ws_l rfl rfl rfl rfl (rd_move rfl) ?_
  refine ws_callp rfl rfl rfl rfl rfl (En.go) (fun w hp hn ho => len_ret p m k es2 ws2 c2 d2 L2 W2 [r1, r2] hL2 hW2 hok2 (by simp) w (hp.mono SubH.mem) (SubH.nd hn)) ?_
  refine ws_l rfl rfl rfl rfl (rd_cmp_t rfl rfl rfl (by simp [cmpP])) ?_
  refine ws_l rfl rfl rfl rfl (rd_pick_t rfl rfl) ?_
  refine ws_l rfl rfl rfl rfl (rd_assign rfl) ?_
  refine ws_nil ?_
  refine qe_then ?_
  refine wc_keep [(0, _)] rfl ?_
  refine wc_ret ?_
  refine qe_body _ (.inl rfl) (res1 rfl (RV.tmp rfl)) ?_
  exact ret_end fun w hp hn ho => rfl

end Go.Proofs.YtheioljidangkaaGreat
