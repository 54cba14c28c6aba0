/- Walk: known. No conditions. -/
import Derived.Test.YtaagmgpfpaanlaaKnw
namespace Go.Proofs.Ytaagmgpfpaanlaa
open Go Go.RowKit Go.Sx
set_option linter.unusedSimpArgs false
set_option linter.unusedVariables false

set_option maxRecDepth 100000 in
set_option maxHeartbeats 4000000 in
theorem known_ret (w : World) : Ret Try.prog 16 [] w [] (fun v _ => v = .bool true) := by
  refine enter (n := 135) (args := []) [] [] Try.func16 rfl rfl rfl (HpOK.nil w) (by simp) ?_
  refine wc_seq ?_
  refine wc_plain [(0, .x true)] (by kernel_rfl) ?_
  refine ws_l rfl rfl rfl rfl (rd_assign rfl) ?_
  refine ws_nil ?_
  refine qe_then ?_
  refine wc_seq ?_
  refine wc_plain [(0, .x true), (1, .x true), (2, .x true), (3, .x true)] (by kernel_rfl) ?_
  refine ws_l rfl rfl rfl rfl (rd_build rfl) ?_
  refine ws_l rfl rfl rfl rfl (rd_build rfl) ?_
  refine ws_alloc rfl rfl rfl ?_
  intro b1 hb1
  refine ws_store rfl rfl rfl rfl (by first | exact .inl (by assumption) | exact .inr (by simp)) (fun _ h _ => by first | (cases h; done) | exact List.mem_cons_of_mem _ h | exact List.mem_cons_of_mem _ (List.mem_cons_of_mem _ h) | (simp at h ⊢; simp [h])) ?_
  refine ws_nil ?_
  refine qe_then ?_
  refine wc_seq ?_
  refine wc_plain [(0, .x true), (1, .x true), (2, .x true), (3, .x true), (4, .x true), (5, .x true)] (by kernel_rfl) ?_
  refine ws_l rfl rfl rfl rfl (rd_build rfl) ?_
  refine ws_l rfl rfl rfl rfl (rd_fieldAddr rfl) ?_
  refine ws_l rfl rfl rfl rfl (rd_load rfl) ?_
  refine ws_l rfl rfl rfl rfl (rd_build rfl) ?_
  refine ws_alloc rfl rfl rfl ?_
  intro b2 hb2
  refine ws_store rfl rfl rfl rfl (by first | exact .inl (by assumption) | exact .inr (by simp)) (fun _ h _ => by first | (cases h; done) | exact List.mem_cons_of_mem _ h | exact List.mem_cons_of_mem _ (List.mem_cons_of_mem _ h) | (simp at h ⊢; simp [h])) ?_
  refine ws_nil ?_
  refine qe_then ?_
  refine wc_keep [(0, _), (1, _), (2, _)] rfl ?_
  refine wc_seq ?_
  refine wc_plain [(0, .x true), (1, .x true), (2, .x true), (3, .x true), (4, .x true), (5, .x true)] (by kernel_rfl) ?_
  refine ws_l rfl rfl rfl rfl (rd_build rfl) ?_
  refine ws_l rfl rfl rfl rfl (rd_fieldAddr rfl) ?_
  refine ws_l rfl rfl rfl rfl (rd_load rfl) ?_
  refine ws_l rfl rfl rfl rfl (rd_build rfl) ?_
  refine ws_alloc rfl rfl rfl ?_
  intro b3 hb3
  refine ws_store rfl rfl rfl rfl (by first | exact .inl (by assumption) | exact .inr (by simp)) (fun _ h _ => by first | (cases h; done) | exact List.mem_cons_of_mem _ h | exact List.mem_cons_of_mem _ (List.mem_cons_of_mem _ h) | (simp at h ⊢; simp [h])) ?_
  refine ws_nil ?_
  refine qe_then ?_
  refine wc_seq ?_
  refine wc_plain [(0, .x true), (1, .x true), (2, .x true), (3, .x true), (4, .x true), (5, .x true)] (by kernel_rfl) ?_
  refine ws_l rfl rfl rfl rfl (rd_build rfl) ?_
  refine ws_l rfl rfl rfl rfl (rd_fieldAddr rfl) ?_
  refine ws_l rfl rfl rfl rfl (rd_load rfl) ?_
  refine ws_l rfl rfl rfl rfl (rd_build rfl) ?_
  refine ws_alloc rfl rfl rfl ?_
  intro b4 hb4
  refine ws_store rfl rfl rfl rfl (by first | exact .inl (by assumption) | exact .inr (by simp)) (fun _ h _ => by first | (cases h; done) | exact List.mem_cons_of_mem _ h | exact List.mem_cons_of_mem _ (List.mem_cons_of_mem _ h) | (simp at h ⊢; simp [h])) ?_
  refine ws_nil ?_
  refine qe_then ?_
  refine wc_keep [(0, _), (1, _), (2, _), (3, _), (4, _)] rfl ?_
  refine wc_seq ?_
  refine wc_plain [(0, .x true), (1, .x true), (2, .x true), (3, .x true), (4, .x true), (5, .x true), (6, .x true), (7, .x true), (8, .x true), (9, .x true)] (by kernel_rfl) ?_
  refine ws_l rfl rfl rfl rfl (rd_load rfl) ?_
  refine ws_l rfl rfl rfl rfl (rd_load rfl) ?_
  refine ws_l rfl rfl rfl rfl (rd_load rfl) ?_
  refine ws_buildSlice rfl rfl rfl rfl ?_
  intro b31 hb31
  have hq5 := fun w (hp : HpOK _ w) => ends_ret (.slice (some ⟨b31, 0, none⟩) 3 3) [(b31, .cells (rowsC [kx, ky1, ky2]) 43 (0, 0))] ([kx, ky1, ky2].map kh) (rowsC_src [kx, ky1, ky2] b31 3 3 rfl) (by simp) (kh_gok [kx, ky1, ky2] (by simp) _) w hp (by simp)
  simp only [map_kh, kc1, ke1] at hq5
  refine ws_call rfl rfl rfl rfl rfl (En.go) (fun w hp hn ho => hq5 w (hp.mono SubH.mem)) (fun _ h => by cases h) (fun hh q h => by first | (cases h; done) | exact hh q h) ?_
  rintro v32 wa wb hpo hon hon2 hp1 ⟨g5, ν5, rfl, hown5, hν5⟩
  refine ⟨ν5, hν5, hown5.nd, fun b hb => .inl (hown5.far b hb), ?_⟩
  replace hown5 := hown5.mono hon.size
  obtain ⟨gA5, gn5, gc5⟩ := g5
  obtain ⟨q5, cap5, cur5, hv5, rfl, hq5, hcap5, hcur5⟩ := OwnR.opened hown5 (by simp)
  simp only [Value.slice.injEq] at hv5
  obtain ⟨rfl, rfl, rfl⟩ := hv5
  refine ws_l rfl rfl rfl rfl (rd_move rfl) ?_
  refine ws_l rfl rfl rfl rfl (rd_extract rfl) ?_
  refine ws_l rfl rfl rfl rfl (rd_extract rfl) ?_
  refine ws_l rfl rfl rfl rfl (rd_assign rfl) ?_
  refine ws_l rfl rfl rfl rfl (rd_assign rfl) ?_
  refine ws_nil ?_
  refine qe_then ?_
  refine wc_keep [(0, _), (1, _), (2, _), (3, _), (4, _), (5, _), (6, _)] rfl ?_
  refine wc_seq ?_
  refine wc_plain [(0, .x true), (1, .x true), (2, .x true), (3, .x true), (4, .x true), (5, .x true), (6, .x true), (7, .x true), (8, .x true), (9, .x true), (10, .x true)] (by kernel_rfl) ?_
  refine ws_l rfl rfl rfl rfl (rd_load rfl) ?_
  refine ws_l rfl rfl rfl rfl (rd_load rfl) ?_
  refine ws_l rfl rfl rfl rfl (rd_load rfl) ?_
  refine ws_l rfl rfl rfl rfl (rd_load rfl) ?_
  refine ws_buildSlice rfl rfl rfl rfl ?_
  intro b40 hb40
  have hq7 := fun w (hp : HpOK _ w) => withdrawn_ret (.slice (some ⟨b40, 0, none⟩) 4 4) [(b40, .cells (rowsC [kz, ky2, ky1, kx]) 43 (0, 0))] ([kz, ky2, ky1, kx].map kh) (rowsC_src [kz, ky2, ky1, kx] b40 4 4 rfl) (by simp) (kh_gok [kz, ky2, ky1, kx] (by simp) _) w hp (by simp)
  simp only [map_kh, kc2, ke2] at hq7
  refine ws_call rfl rfl rfl rfl rfl (En.go) (fun w hp hn ho => hq7 w (hp.mono SubH.mem)) (fun _ h => by cases h) (fun hh q h => by first | (cases h; done) | exact hh q h) ?_
  rintro v41 wa wb hpo hon hon2 hp1 ⟨g7, ν7, rfl, hown7, hν7⟩
  refine ⟨ν7, hν7, hown7.nd, fun b hb => .inl (hown7.far b hb), ?_⟩
  replace hown7 := hown7.mono hon.size
  obtain ⟨gA7, gn7, gc7⟩ := g7
  obtain ⟨q7, cap7, cur7, hv7, rfl, hq7, hcap7, hcur7⟩ := OwnR.opened hown7 (by simp)
  simp only [Value.slice.injEq] at hv7
  obtain ⟨rfl, rfl, rfl⟩ := hv7
  refine ws_l rfl rfl rfl rfl (rd_move rfl) ?_
  refine ws_l rfl rfl rfl rfl (rd_extract rfl) ?_
  refine ws_l rfl rfl rfl rfl (rd_extract rfl) ?_
  refine ws_l rfl rfl rfl rfl (rd_assign rfl) ?_
  refine ws_l rfl rfl rfl rfl (rd_assign rfl) ?_
  refine ws_nil ?_
  refine qe_then ?_
  refine wc_keep [(0, _), (1, _), (2, _), (3, _), (4, _), (5, _), (6, _), (7, _), (8, _)] rfl ?_
  refine wc_seq ?_
  refine wc_plain [(0, .x true), (1, .x true), (2, .x true), (3, .x true), (4, .x true), (5, .x true), (6, .x true), (7, .x true), (8, .x true)] (by kernel_rfl) ?_
  refine ws_l rfl rfl rfl rfl (rd_load rfl) ?_
  refine ws_l rfl rfl rfl rfl (rd_load rfl) ?_
  refine ws_buildSlice rfl rfl rfl rfl ?_
  intro b47 hb47
  have hq9 := fun w (hp : HpOK _ w) => ends_ret (.slice (some ⟨b47, 0, none⟩) 2 2) [(b47, .cells (rowsC [ky1, ky2]) 43 (0, 0))] ([ky1, ky2].map kh) (rowsC_src [ky1, ky2] b47 2 2 rfl) (by simp) (kh_gok [ky1, ky2] (by simp) _) w hp (by simp)
  simp only [map_kh, kc3, ke3] at hq9
  refine ws_call rfl rfl rfl rfl rfl (En.go) (fun w hp hn ho => hq9 w (hp.mono SubH.mem)) (fun _ h => by cases h) (fun hh q h => by first | (cases h; done) | exact hh q h) ?_
  rintro v48 wa wb hpo hon hon2 hp1 ⟨g9, ν9, rfl, hown9, hν9⟩
  refine ⟨ν9, hν9, hown9.nd, fun b hb => .inl (hown9.far b hb), ?_⟩
  replace hown9 := hown9.mono hon.size
  obtain ⟨gA9, gn9, gc9⟩ := g9
  obtain ⟨q9, cap9, cur9, hv9, rfl, hq9, hcap9, hcur9⟩ := OwnR.opened hown9 (by simp)
  simp only [Value.slice.injEq] at hv9
  obtain ⟨rfl, rfl, rfl⟩ := hv9
  refine ws_l rfl rfl rfl rfl (rd_move rfl) ?_
  refine ws_l rfl rfl rfl rfl (rd_extract rfl) ?_
  refine ws_l rfl rfl rfl rfl (rd_extract rfl) ?_
  refine ws_l rfl rfl rfl rfl (rd_assign rfl) ?_
  refine ws_l rfl rfl rfl rfl (rd_assign rfl) ?_
  refine ws_nil ?_
  refine qe_then ?_
  refine wc_keep [(0, _), (1, _), (2, _), (3, _), (4, _), (5, _), (6, _), (7, _), (8, _), (9, _), (10, _)] rfl ?_
  refine wc_seq ?_
  refine wc_plain [(0, .x true), (1, .x true), (2, .x true), (3, .x true), (4, .x true), (5, .x true), (6, .x true), (7, .x true), (8, .x true)] (by kernel_rfl) ?_
  refine ws_l rfl rfl rfl rfl (rd_load rfl) ?_
  refine ws_l rfl rfl rfl rfl (rd_load rfl) ?_
  refine ws_buildSlice rfl rfl rfl rfl ?_
  intro b54 hb54
  have hq11 := fun w (hp : HpOK _ w) => ends_ret (.slice (some ⟨b54, 0, none⟩) 2 2) [(b54, .cells (rowsC [kx, kz]) 43 (0, 0))] ([kx, kz].map kh) (rowsC_src [kx, kz] b54 2 2 rfl) (by simp) (kh_gok [kx, kz] (by simp) _) w hp (by simp)
  simp only [map_kh, kc4, ke4] at hq11
  refine ws_call rfl rfl rfl rfl rfl (En.go) (fun w hp hn ho => hq11 w (hp.mono SubH.mem)) (fun _ h => by cases h) (fun hh q h => by first | (cases h; done) | exact hh q h) ?_
  rintro v55 wa wb hpo hon hon2 hp1 ⟨g11, ν11, rfl, hown11, hν11⟩
  refine ⟨ν11, hν11, hown11.nd, fun b hb => .inl (hown11.far b hb), ?_⟩
  replace hown11 := hown11.mono hon.size
  refine ws_l rfl rfl rfl rfl (rd_move rfl) ?_
  refine ws_l rfl rfl rfl rfl (rd_extract rfl) ?_
  refine ws_l rfl rfl rfl rfl (rd_extract rfl) ?_
  refine ws_l rfl rfl rfl rfl (rd_assign rfl) ?_
  refine ws_l rfl rfl rfl rfl (rd_assign rfl) ?_
  refine ws_nil ?_
  refine qe_then ?_
  refine wc_keep [(0, _), (1, _), (2, _), (3, _), (5, _), (6, _), (7, _), (8, _), (9, _), (10, _), (11, _), (12, _)] rfl ?_
  refine wc_seq ?_
  refine wc_drawn mixedT _ (fun _ h => h) [(0, .r), (1, .r), (2, .r), (3, .r), (4, .r), (5, .r), (6, .r), (7, .r), (8, .r), (9, .r), (10, .r), (11, .r), (12, .r), (13, .r), (14, .r), (15, .r), (16, .r), (17, .r), (18, .r), (19, .r), (20, .r), (21, .r), (22, .r), (23, .r), (24, .r), (25, .r), (26, .r), (27, .r), (28, .r), (29, .r), (30, .r), (31, .r), (32, .r), (33, .r), (34, .r), (35, .r), (36, .r), (37, .r), (38, .r), (39, .r), (40, .r), (41, .r), (42, .r), (43, .r), (44, .r), (45, .r), (46, .r), (47, .r), (48, .r), (49, .r), (50, .r), (51, .r), (52, .r), (53, .r), (54, .r), (55, .r), (56, .r), (57, .r), (58, .r), (59, .r), (60, .r), (61, .r), (62, .r), (63, .r), (64, .r), (65, .r), (66, .r), (67, .r), (68, .r), (69, .x false), (70, .r), (71, .r), (72, .r), (73, .r), (74, .x false), (75, .r), (76, .r), (77, .x true)] (by kernel_rfl) ?_
  refine ws_r rfl rfl rfl rfl (rd_move rfl) ?_
  refine ws_r rfl rfl rfl rfl (rd_cmp_t rfl rfl rfl (by simp [cmpP])) ?_
  refine ws_r rfl rfl rfl rfl (rd_move rfl) ?_
  refine ws_r rfl rfl rfl rfl (rd_move rfl) ?_
  refine ws_r rfl rfl rfl rfl (rd_len rfl Try.underlying26) ?_
  refine ws_r rfl rfl rfl rfl (rd_cmp_t rfl rfl rfl (by simp [cmpP])) ?_
  refine ws_r rfl rfl rfl rfl (rd_pick_t rfl rfl) ?_
  refine ws_r rfl rfl rfl rfl (rd_move rfl) ?_
  refine ws_r rfl rfl rfl rfl (rd_move rfl) ?_
  have at50 : ReadsAt Try.prog 38 cur5 (0 * 32) (idK (id0.set 0 3)) := ids_get (zs := [id0.set 0 3]) (fun t ht => by simpa using hcur5 t (by simpa using ht)) rfl
  refine ws_r rfl rfl rfl rfl (rd_ix (j := 0) rfl rfl Try.underlying26 Try.sizeOf38 (by simp)) ?_
  refine ws_r rfl rfl rfl rfl (rd_load rfl) ?_
  refine ws_r rfl rfl rfl rfl (rd_fieldAddr rfl) ?_
  refine ws_r rfl rfl rfl rfl (rd_load rfl) ?_
  refine ws_r rfl rfl rfl rfl (rd_eqid_t rfl rfl Try.underlying38 (by kernel_rfl) rfl) ?_
  refine ws_r rfl rfl rfl rfl (rd_pick_t rfl rfl) ?_
  refine ws_r rfl rfl rfl rfl (rd_move rfl) ?_
  refine ws_r rfl rfl rfl rfl (rd_move rfl) ?_
  refine ws_r rfl rfl rfl rfl (rd_cmp_t rfl rfl rfl (by simp [cmpP])) ?_
  refine ws_r rfl rfl rfl rfl (rd_pick_t rfl rfl) ?_
  refine ws_r rfl rfl rfl rfl (rd_move rfl) ?_
  refine ws_r rfl rfl rfl rfl (rd_move rfl) ?_
  refine ws_r rfl rfl rfl rfl (rd_len rfl Try.underlying26) ?_
  refine ws_r rfl rfl rfl rfl (rd_cmp_t rfl rfl rfl (by simp [cmpP])) ?_
  refine ws_r rfl rfl rfl rfl (rd_pick_t rfl rfl) ?_
  refine ws_r rfl rfl rfl rfl (rd_move rfl) ?_
  refine ws_r rfl rfl rfl rfl (rd_move rfl) ?_
  have at70 : ReadsAt Try.prog 38 cur7 (0 * 32) (idK (id0.set 0 1)) := ids_get (zs := [id0.set 0 1, id0.set 0 2]) (fun t ht => by simpa using hcur7 t (by simpa using ht)) rfl
  refine ws_r rfl rfl rfl rfl (rd_ix (j := 0) rfl rfl Try.underlying26 Try.sizeOf38 (by simp)) ?_
  refine ws_r rfl rfl rfl rfl (rd_load rfl) ?_
  refine ws_r rfl rfl rfl rfl (rd_fieldAddr rfl) ?_
  refine ws_r rfl rfl rfl rfl (rd_load rfl) ?_
  refine ws_r rfl rfl rfl rfl (rd_eqid_t rfl rfl Try.underlying38 (by kernel_rfl) rfl) ?_
  refine ws_r rfl rfl rfl rfl (rd_pick_t rfl rfl) ?_
  refine ws_r rfl rfl rfl rfl (rd_move rfl) ?_
  refine ws_r rfl rfl rfl rfl (rd_move rfl) ?_
  have at71 : ReadsAt Try.prog 38 cur7 (1 * 32) (idK (id0.set 0 2)) := ids_get (zs := [id0.set 0 1, id0.set 0 2]) (fun t ht => by simpa using hcur7 t (by simpa using ht)) rfl
  refine ws_r rfl rfl rfl rfl (rd_ix (j := 1) rfl rfl Try.underlying26 Try.sizeOf38 (by simp)) ?_
  refine ws_r rfl rfl rfl rfl (rd_load rfl) ?_
  refine ws_r rfl rfl rfl rfl (rd_fieldAddr rfl) ?_
  refine ws_r rfl rfl rfl rfl (rd_load rfl) ?_
  refine ws_r rfl rfl rfl rfl (rd_eqid_t rfl rfl Try.underlying38 (by kernel_rfl) rfl) ?_
  refine ws_r rfl rfl rfl rfl (rd_pick_t rfl rfl) ?_
  refine ws_r rfl rfl rfl rfl (rd_move rfl) ?_
  refine ws_r rfl rfl rfl rfl (rd_move rfl) ?_
  refine ws_r rfl rfl rfl rfl (rd_cmp_t rfl rfl rfl (by simp [cmpP])) ?_
  refine ws_r rfl rfl rfl rfl (rd_pick_t rfl rfl) ?_
  refine ws_r rfl rfl rfl rfl (rd_move rfl) ?_
  refine ws_r rfl rfl rfl rfl (rd_move rfl) ?_
  refine ws_r rfl rfl rfl rfl (rd_len rfl Try.underlying26) ?_
  refine ws_r rfl rfl rfl rfl (rd_cmp_t rfl rfl rfl (by simp [cmpP])) ?_
  refine ws_r rfl rfl rfl rfl (rd_pick_t rfl rfl) ?_
  refine ws_r rfl rfl rfl rfl (rd_move rfl) ?_
  refine ws_r rfl rfl rfl rfl (rd_move rfl) ?_
  have at90 : ReadsAt Try.prog 38 cur9 (0 * 32) (idK (id0.set 0 3)) := ids_get (zs := [id0.set 0 3]) (fun t ht => by simpa using hcur9 t (by simpa using ht)) rfl
  refine ws_r rfl rfl rfl rfl (rd_ix (j := 0) rfl rfl Try.underlying26 Try.sizeOf38 (by simp)) ?_
  refine ws_r rfl rfl rfl rfl (rd_load rfl) ?_
  refine ws_r rfl rfl rfl rfl (rd_fieldAddr rfl) ?_
  refine ws_r rfl rfl rfl rfl (rd_load rfl) ?_
  refine ws_r rfl rfl rfl rfl (rd_eqid_t rfl rfl Try.underlying38 (by kernel_rfl) rfl) ?_
  refine ws_r rfl rfl rfl rfl (rd_pick_t rfl rfl) ?_
  refine ws_r rfl rfl rfl rfl (rd_move rfl) ?_
  refine ws_r rfl rfl rfl rfl (rd_move rfl) ?_
  refine ws_r rfl rfl rfl rfl (rd_cmp_t rfl rfl rfl (by simp [cmpP])) ?_
  refine ws_r rfl rfl rfl rfl (rd_pick_t rfl rfl) ?_
  refine ws_r rfl rfl rfl rfl (rd_move rfl) ?_
  refine ws_r rfl rfl rfl rfl (rd_move rfl) ?_
  refine ws_r rfl rfl rfl rfl (rd_lenO hown11 rfl Try.underlying26) ?_
  refine ws_r rfl rfl rfl rfl (rd_cmp_t rfl rfl rfl (by simp [cmpP])) ?_
  refine ws_r rfl rfl rfl rfl (rd_pick_t rfl rfl) ?_
  refine ws_r rfl rfl rfl rfl (rd_move rfl) ?_
  refine ws_r rfl rfl rfl rfl (rd_load rfl) ?_
  refine ws_r rfl rfl rfl rfl (rd_load rfl) ?_
  refine ws_callp rfl rfl rfl rfl rfl (En.go) (fun w hp hn ho => by have h := outdoes_ret ky2 ky1 gnil gnil [] (GOK.zero _) (GOK.zero _) w (HpOK.nil _) (by simp); rwa [decide_eq_true ko1] at h) ?_
  refine ws_r rfl rfl rfl rfl (rd_pick_t rfl rfl) ?_
  refine ws_r rfl rfl rfl rfl (rd_move rfl) ?_
  refine ws_r rfl rfl rfl rfl (rd_load rfl) ?_
  refine ws_r rfl rfl rfl rfl (rd_load rfl) ?_
  refine ws_callp rfl rfl rfl rfl rfl (En.go) (fun w hp hn ho => by have h := outdoes_ret ky1 ky2 gnil gnil [] (GOK.zero _) (GOK.zero _) w (HpOK.nil _) (by simp); rwa [decide_eq_false ko2] at h) ?_
  refine ws_r rfl rfl rfl rfl (rd_not rfl) ?_
  refine ws_r rfl rfl rfl rfl (rd_pick_t rfl rfl) ?_
  refine ws_late rfl ?_
  refine ws_l rfl rfl rfl rfl (rd_assign rfl) ?_
  refine ws_nil ?_
  refine qe_then ?_
  refine wc_keep [(0, _)] rfl ?_
  refine wc_ret ?_
  refine qe_body _ (.inl rfl) (res1 rfl (RV.tmp rfl)) ?_
  exact ret_end fun w hp hn ho => rfl

end Go.Proofs.Ytaagmgpfpaanlaa
