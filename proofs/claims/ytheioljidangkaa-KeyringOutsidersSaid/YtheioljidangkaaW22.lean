/- Walk: KeyringOutsiders. No conditions. -/
import Derived.Test.YtheioljidangkaaOut
import Derived.Test.YtheioljidangkaaW20
import Derived.Test.YtheioljidangkaaOpn
namespace Go.Proofs.Ytheioljidangkaa
open Go Go.RowKit Go.Sx
set_option linter.unusedSimpArgs false
set_option linter.unusedVariables false

set_option maxRecDepth 100000 in
set_option maxHeartbeats 8000000 in
theorem outsiders_ret (v : Value) (φ : Heap) (ms : List MV) (hsrc : Src φ v 7 ms.length (ms.flatMap mvL)) (more : MV) (au : UInt8) (w : World) (hφ : HpOK φ w) (hnd : (φ.map Prod.fst).Nodup) : Ret Try.prog 4 [v, mvK more, u8v au] w [] (fun u _ => u = .bool true) := by
  refine enter (n := 85) (args := [v, mvK more, u8v au]) [] φ Try.func4 rfl rfl rfl hφ hnd ?_
  refine wc_seq ?_
  refine wc_plain [(0, .x true), (1, .x true)] (by kernel_rfl) ?_
  refine ws_box rfl rfl rfl rfl ?_
  intro b4 hb4
  refine ws_l rfl rfl rfl rfl (rd_assign rfl) ?_
  refine ws_nil ?_
  refine qe_then ?_
  refine wc_seq ?_
  refine wc_seq ?_
  refine wc_plain [(0, .x true), (1, .x true)] (by kernel_rfl) ?_
  refine ws_callp rfl rfl rfl rfl rfl (En.go) (fun w hp hn ho => known_ret w) ?_
  refine ws_l rfl rfl rfl rfl (rd_not rfl) ?_
  refine ws_nil ?_
  refine qe_then ?_
  refine wc_false rfl ?_
  refine wc_skip ?_
  refine qe_then ?_
  refine wc_seq ?_
  refine wc_plain [(0, .x true), (1, .x true), (2, .x true), (3, .x true), (4, .x true), (5, .x true), (6, .x true), (7, .x true), (8, .x true)] (by kernel_rfl) ?_
  refine ws_l rfl rfl rfl rfl (rd_move rfl) ?_
  refine ws_call rfl rfl rfl rfl rfl (En.go) (fun w hp hn ho => build_law v φ ms hsrc 16 (by omega) w (hp.mono SubH.mem) (SubH.nd hn)) (fun _ h => by cases h) (fun hh q h => by first | (cases h; done) | exact hh q h) ?_
  rintro v21 wa wb hpo hon hon2 hp1 ⟨p, m, k, es, c, ws, d, L, W, v8, νl, rfl, hph, hpn, hpf, hL, hW, hok, hlo⟩
  refine ⟨_, hph, hpn, fun b hb => .inl (hpf b hb), ?_⟩
  replace hlo := hlo.mono hon.size
  have hpf' := fun b hb => Nat.le_trans hon.size (hpf b hb)
  have hl24 : (buildF (ms.take 16)).length < 8192 := by have h1 := buildF_len (ms.take 16); rw [List.length_take] at h1; omega
  simp only [List.cons_append, List.append_assoc]
  refine ws_l rfl rfl rfl rfl (rd_move rfl) ?_
  refine ws_l rfl rfl rfl rfl (rd_extract rfl) ?_
  refine ws_l rfl rfl rfl rfl (rd_extract rfl) ?_
  refine ws_l rfl rfl rfl rfl (rd_extract rfl) ?_
  refine ws_l rfl rfl rfl rfl (rd_assign rfl) ?_
  refine ws_l rfl rfl rfl rfl (rd_assign rfl) ?_
  refine ws_l rfl rfl rfl rfl (rd_assign rfl) ?_
  refine ws_nil ?_
  refine qe_then ?_
  refine wc_keep [(2, _), (4, _), (6, _), (7, _), (8, _)] rfl ?_
  refine wc_seq ?_
  refine wc_plain [(0, .x true), (1, .x true), (2, .x true), (3, .x true), (4, .x true)] (by kernel_rfl) ?_
  refine ws_l rfl rfl rfl rfl (rd_move rfl) ?_
  refine ws_callp rfl rfl rfl rfl rfl (En.go) (fun w hp hn ho => public_ret au w) ?_
  refine ws_callp rfl rfl rfl rfl rfl (En.go) (fun w hp hn ho => of_ref _ w) ?_
  refine ws_alloc rfl rfl rfl ?_
  intro b10 hb10
  refine ws_store rfl rfl rfl rfl (by first | exact .inl (by assumption) | exact .inr (by simp)) (fun _ h _ => by first | (cases h; done) | exact List.mem_cons_of_mem _ h | exact List.mem_cons_of_mem _ (List.mem_cons_of_mem _ h) | (simp at h ⊢; simp [h])) ?_
  refine ws_nil ?_
  refine qe_then ?_
  refine wc_seq ?_
  refine wc_plain [(0, .x true), (1, .x true), (2, .x true), (3, .x true)] (by kernel_rfl) ?_
  refine ws_l rfl rfl rfl rfl (rd_move rfl) ?_
  refine ws_l rfl rfl rfl rfl (rd_load rfl) ?_
  refine ws_call rfl rfl rfl rfl rfl (En.go) (fun w hp hn ho => chain_ref v8 νl (buildF (ms.take 16)) hlo.src (by omega) hok.ok (ofF (pubV au)) w (hp.mono SubH.mem) (SubH.nd hn)) (fun _ h => by cases h) (fun hh q h => by first | (cases h; done) | exact hh q h) ?_
  rintro v30 wa wb hpo hon hon2 hp1 ⟨ν11, hown11, hν11⟩
  refine ⟨ν11, hν11, hown11.nd, fun b hb => .inl (hown11.far b hb), ?_⟩
  replace hown11 := hown11.mono hon.size
  have hcl11 := chainF_len (buildF (ms.take 16)) (ofF (pubV au))
  refine ws_l rfl rfl rfl rfl (rd_assign rfl) ?_
  refine ws_nil ?_
  refine qe_then ?_
  refine wc_keep [(4, _), (6, _), (7, _), (8, _), (10, _), (11, _)] rfl ?_
  refine wc_seq ?_
  refine wc_plain [(0, .x true), (1, .x true), (2, .x true), (3, .x true), (4, .x true), (5, .x true), (6, .x true), (7, .x true), (8, .x true), (9, .x true)] (by kernel_rfl) ?_
  refine ws_l rfl rfl rfl rfl (rd_load rfl) ?_
  refine ws_callp rfl rfl rfl rfl rfl (En.go) (fun w hp hn ho => rekey_ret more w) ?_
  refine ws_l rfl rfl rfl rfl (rd_move rfl) ?_
  refine ws_l rfl rfl rfl rfl (rd_extract rfl) ?_
  refine ws_l rfl rfl rfl rfl (rd_extract rfl) ?_
  refine ws_l rfl rfl rfl rfl (rd_extract rfl) ?_
  refine ws_alloc rfl rfl rfl ?_
  intro b12 hb12
  refine ws_store rfl rfl rfl rfl (by first | exact .inl (by assumption) | exact .inr (by simp)) (fun _ h _ => by first | (cases h; done) | exact List.mem_cons_of_mem _ h | exact List.mem_cons_of_mem _ (List.mem_cons_of_mem _ h) | (simp at h ⊢; simp [h])) ?_
  refine ws_l rfl rfl rfl rfl (rd_assign rfl) ?_
  refine ws_l rfl rfl rfl rfl (rd_assign rfl) ?_
  refine ws_nil ?_
  refine qe_then ?_
  refine wc_keep [(4, _), (6, _), (7, _), (8, _), (10, _), (11, _), (12, _)] rfl ?_
  refine wc_seq ?_
  refine wc_plain [(0, .x true)] (by kernel_rfl) ?_
  refine ws_l rfl rfl rfl rfl (rd_assign rfl) ?_
  refine ws_nil ?_
  refine qe_then ?_
  refine wc_seq ?_
  refine wc_seq ?_
  refine wc_plain [(0, .x true)] (by kernel_rfl) ?_
  refine ws_l rfl rfl rfl rfl (rd_assign rfl) ?_
  refine ws_nil ?_
  refine qe_then ?_
  refine wc_block ?_
  refine wc_loop (fun mz ac w1 => ∃ (j : Nat) (inn : Bool), mz = (chainF (buildF (ms.take 16)) (ofF (pubV au))).length - j ∧ (j ≤ (chainF (buildF (ms.take 16)) (ofF (pubV au))).length) ∧ (inn = ((chainF (buildF (ms.take 16)) (ofF (pubV au))).take j).any (fun x => decide (x.n = (rekR more).n ∧ x.p = (rekR more).p))) ∧ St 85 w [] [(4, ptr b4), (7, ptr p), (8, v8), (10, ptr b10), (11, v30), (12, ptr b12), (15, .bool inn), (16, I j)] ((b12, .cells (rkC (rekR more)) 45 (0, 0)) :: (ν11 ++ ((b10, .cells (idC (ofF (pubV au))) 29 (0, 0)) :: (ringP p m k :: (ringT m k es c ws d (facts W) ++ (νl ++ ((b4, .cells (mvC more) 41 (0, 0)) :: φ))))))) ac w1) _ (fun ac w1 hs => ⟨0, false, rfl, (by omega), (by simp), st_sub hs _ rfl⟩) ?_
  rintro _ ac1 wl1 ⟨j, inn, rfl, hj, hin, hs1⟩
  refine wc_at hs1 ?_
  refine wc_seq ?_
  refine wc_seq ?_
  refine wc_plain [(0, .x true), (1, .x true), (2, .x true), (3, .x true)] (by kernel_rfl) ?_
  refine ws_l rfl rfl rfl rfl (rd_move rfl) ?_
  refine ws_l rfl rfl rfl rfl (rd_move rfl) ?_
  refine ws_l rfl rfl rfl rfl (rd_lenO hown11 rfl Try.underlying42) ?_
  refine ws_lcmp rfl rfl rfl (rfl) (rfl) (rfl) ?_ ?_
  · intro h40
    refine ws_nil ?_
    refine qe_then ?_
    refine wc_true rfl ?_
    refine wc_skip ?_
    refine qe_then ?_
    refine wc_seq ?_
    refine wc_block ?_
    refine wc_drawn mixedT _ (fun _ h => h) [(0, .r), (1, .r), (2, .r), (3, .r), (4, .r), (5, .r), (6, .r), (7, .r), (8, .r), (9, .r), (10, .r), (11, .r), (12, .r), (13, .r), (14, .r), (15, .r), (16, .r), (17, .r), (18, .x true), (19, .x true), (20, .x true), (21, .x true)] (by kernel_rfl) ?_
    cases inn with
    | false =>
      refine ws_r rfl rfl rfl rfl (rd_move rfl) ?_
      refine ws_r rfl rfl rfl rfl (rd_move rfl) ?_
      refine ws_r rfl rfl rfl rfl (rd_move rfl) ?_
      refine ws_r rfl rfl rfl rfl (rd_move rfl) ?_
      have hjl : j < (chainF (buildF (ms.take 16)) (ofF (pubV au))).length := by simp only [cmpP] at h40; omega
      obtain ⟨bg, og, cg, csg, Eg, frg, rfl, hmg, hcg⟩ := Src.opened hown11.src (by omega)
      have hmig : HM bg (.cells csg Eg frg) ν11 := ⟨hmg⟩
      obtain ⟨x, hx⟩ := at_ex (l := (chainF (buildF (ms.take 16)) (ofF (pubV au)))) (j := j) (by omega)
      have atx : AtK csg (og + j * 51) x := at_kk hcg hx
      refine ws_r rfl rfl rfl rfl (rd_index (og + j * 51) rfl rfl Try.underlying42 Try.sizeOf49 ⟨by omega, by omega⟩ (by simp)) ?_
      refine ws_r rfl rfl rfl rfl (rd_fieldAddr rfl) ?_
      refine ws_r rfl rfl rfl rfl (rd_load rfl) ?_
      refine ws_r rfl rfl rfl rfl (rd_fieldAddr rfl) ?_
      refine ws_r rfl rfl rfl rfl (rd_load rfl) ?_
      refine ws_rcmp rfl rfl rfl (rfl) (rfl) (rfl) ?_ ?_
      · intro h52
        simp only [cmpP] at h52
        refine ws_r rfl rfl rfl rfl (rd_move rfl) ?_
        refine ws_r rfl rfl rfl rfl (rd_move rfl) ?_
        refine ws_r rfl rfl rfl rfl (rd_move rfl) ?_
        refine ws_r rfl rfl rfl rfl (rd_index (og + j * 51) rfl rfl Try.underlying42 Try.sizeOf49 ⟨by omega, by omega⟩ (by simp)) ?_
        refine ws_r rfl rfl rfl rfl (rd_fieldAddr rfl) ?_
        refine ws_r rfl rfl rfl rfl (rd_load rfl) ?_
        refine ws_r rfl rfl rfl rfl (rd_fieldAddr rfl) ?_
        refine ws_r rfl rfl rfl rfl (rd_load rfl) ?_
        refine ws_late rfl ?_
        refine ws_lp _ rfl rfl rfl rfl (rd_eql32 rfl rfl) ?_ ?_
        · intro h61
          refine ws_l rfl rfl rfl rfl (rd_pick_t rfl rfl) ?_
          refine ws_l rfl rfl rfl rfl (rd_pick_f rfl rfl) ?_
          refine ws_l rfl rfl rfl rfl (rd_assign rfl) ?_
          refine ws_nil ?_
          refine qe_block ?_
          refine qe_then ?_
          refine wc_plain [(0, .x true), (1, .x true), (2, .x true)] (by kernel_rfl) ?_
          refine ws_l rfl rfl rfl rfl (rd_move rfl) ?_
          refine ws_l rfl rfl rfl rfl (rd_arith (((j + 1 : Nat) : Nat) : Int) rfl rfl rfl (by rw [wrap_i64 _ (by omega) (by omega)]; omega)) ?_
          refine ws_l rfl rfl rfl rfl (rd_assign rfl) ?_
          refine ws_nil ?_
          exact qe_loop fun ac2 w2 hs2 => ⟨_, by (simp only [cmpP] at h40; omega), j + 1, true, rfl, (by simp only [cmpP] at h40; omega), (by rw [take_at hx, List.any_append, ← hin]; simp [show x.n = (rekR more).n from h52, show x.p = (rekR more).p from h61]), st_sub hs2 _ rfl⟩
        · intro h61
          refine ws_l rfl rfl rfl rfl (rd_pick_t rfl rfl) ?_
          refine ws_l rfl rfl rfl rfl (rd_pick_f rfl rfl) ?_
          refine ws_l rfl rfl rfl rfl (rd_assign rfl) ?_
          refine ws_nil ?_
          refine qe_block ?_
          refine qe_then ?_
          refine wc_plain [(0, .x true), (1, .x true), (2, .x true)] (by kernel_rfl) ?_
          refine ws_l rfl rfl rfl rfl (rd_move rfl) ?_
          refine ws_l rfl rfl rfl rfl (rd_arith (((j + 1 : Nat) : Nat) : Int) rfl rfl rfl (by rw [wrap_i64 _ (by omega) (by omega)]; omega)) ?_
          refine ws_l rfl rfl rfl rfl (rd_assign rfl) ?_
          refine ws_nil ?_
          exact qe_loop fun ac2 w2 hs2 => ⟨_, by (simp only [cmpP] at h40; omega), j + 1, false, rfl, (by simp only [cmpP] at h40; omega), (by rw [take_at hx, List.any_append, ← hin]; simp [show x.n = (rekR more).n from h52, show ¬ x.p = (rekR more).p from h61]), st_sub hs2 _ rfl⟩
      · intro h52
        simp only [cmpP] at h52
        refine ws_r rfl rfl rfl rfl (rd_move rfl) ?_
        refine ws_rskip rfl rfl rfl rfl ?_
        refine ws_rskip rfl rfl rfl rfl ?_
        refine ws_rskip rfl rfl rfl rfl ?_
        refine ws_rskip rfl rfl rfl rfl ?_
        refine ws_rskip rfl rfl rfl rfl ?_
        refine ws_rskip rfl rfl rfl rfl ?_
        refine ws_rskip rfl rfl rfl rfl ?_
        refine ws_late rfl ?_
        refine ws_xskip rfl rfl rfl rfl ?_
        refine ws_l rfl rfl rfl rfl (rd_pick_f rfl rfl) ?_
        refine ws_l rfl rfl rfl rfl (rd_pick_f rfl rfl) ?_
        refine ws_l rfl rfl rfl rfl (rd_assign rfl) ?_
        refine ws_nil ?_
        refine qe_block ?_
        refine qe_then ?_
        refine wc_plain [(0, .x true), (1, .x true), (2, .x true)] (by kernel_rfl) ?_
        refine ws_l rfl rfl rfl rfl (rd_move rfl) ?_
        refine ws_l rfl rfl rfl rfl (rd_arith (((j + 1 : Nat) : Nat) : Int) rfl rfl rfl (by rw [wrap_i64 _ (by omega) (by omega)]; omega)) ?_
        refine ws_l rfl rfl rfl rfl (rd_assign rfl) ?_
        refine ws_nil ?_
        exact qe_loop fun ac2 w2 hs2 => ⟨_, by (simp only [cmpP] at h40; omega), j + 1, false, rfl, (by simp only [cmpP] at h40; omega), (by rw [take_at hx, List.any_append, ← hin]; simp [show ¬ x.n = (rekR more).n from h52]), st_sub hs2 _ rfl⟩
    | true =>
      refine ws_r rfl rfl rfl rfl (rd_move rfl) ?_
      refine ws_r rfl rfl rfl rfl (rd_move rfl) ?_
      refine ws_rskip rfl rfl rfl rfl ?_
      refine ws_rskip rfl rfl rfl rfl ?_
      refine ws_rskip rfl rfl rfl rfl ?_
      refine ws_rskip rfl rfl rfl rfl ?_
      refine ws_rskip rfl rfl rfl rfl ?_
      refine ws_rskip rfl rfl rfl rfl ?_
      refine ws_rskip rfl rfl rfl rfl ?_
      refine ws_rskip rfl rfl rfl rfl ?_
      refine ws_rskip rfl rfl rfl rfl ?_
      refine ws_rskip rfl rfl rfl rfl ?_
      refine ws_rskip rfl rfl rfl rfl ?_
      refine ws_rskip rfl rfl rfl rfl ?_
      refine ws_rskip rfl rfl rfl rfl ?_
      refine ws_rskip rfl rfl rfl rfl ?_
      refine ws_rskip rfl rfl rfl rfl ?_
      refine ws_rskip rfl rfl rfl rfl ?_
      refine ws_late rfl ?_
      refine ws_xskip rfl rfl rfl rfl ?_
      refine ws_xskip rfl rfl rfl rfl ?_
      refine ws_l rfl rfl rfl rfl (rd_pick_t rfl rfl) ?_
      refine ws_l rfl rfl rfl rfl (rd_assign rfl) ?_
      refine ws_nil ?_
      refine qe_block ?_
      refine qe_then ?_
      refine wc_plain [(0, .x true), (1, .x true), (2, .x true)] (by kernel_rfl) ?_
      refine ws_l rfl rfl rfl rfl (rd_move rfl) ?_
      refine ws_l rfl rfl rfl rfl (rd_arith (((j + 1 : Nat) : Nat) : Int) rfl rfl rfl (by rw [wrap_i64 _ (by omega) (by omega)]; omega)) ?_
      refine ws_l rfl rfl rfl rfl (rd_assign rfl) ?_
      refine ws_nil ?_
      exact qe_loop fun ac2 w2 hs2 => ⟨_, by (simp only [cmpP] at h40; omega), j + 1, true, rfl, (by simp only [cmpP] at h40; omega), (by obtain ⟨x, hx⟩ := at_ex (l := (chainF (buildF (ms.take 16)) (ofF (pubV au)))) (j := j) (by simp only [cmpP] at h40; omega); rw [take_at hx, List.any_append, ← hin]; rfl), st_sub hs2 _ rfl⟩
  · intro h40
    refine ws_nil ?_
    refine qe_then ?_
    refine wc_false rfl ?_
    refine wc_exit ?_
    refine qe_then_exit ?_
    refine qe_then_exit ?_
    refine qe_block_exit ?_
    refine qe_then ?_
    refine wc_keep [(4, _), (7, _), (8, _), (10, _), (11, _), (12, _), (15, _)] rfl ?_
    refine wc_seq ?_
    refine wc_seq ?_
    refine wc_plain [(0, .x true), (1, .x true), (2, .x true), (3, .x true), (4, .x true), (5, .x true), (6, .x true), (7, .x true), (8, .x true), (9, .x true), (10, .x true), (11, .x true)] (by kernel_rfl) ?_
    refine ws_l rfl rfl rfl rfl (rd_fieldAddr rfl) ?_
    refine ws_l rfl rfl rfl rfl (rd_load rfl) ?_
    refine ws_l rfl rfl rfl rfl (rd_load rfl) ?_
    refine ws_lp _ rfl rfl rfl rfl (rd_eqid rfl rfl Try.underlying29 (by kernel_rfl)) ?_ ?_
    · intro h67
      refine ws_l rfl rfl rfl rfl (rd_move rfl) ?_
      cases inn with
      | false =>
        refine ws_l rfl rfl rfl rfl (rd_move rfl) ?_
        refine ws_l rfl rfl rfl rfl (rd_move rfl) ?_
        refine ws_l rfl rfl rfl rfl (rd_move rfl) ?_
        refine ws_l rfl rfl rfl rfl (rd_lenO hown11 rfl Try.underlying42) ?_
        refine ws_lcmp rfl rfl rfl (rfl) (rfl) (rfl) ?_ ?_
        · intro h73
          refine ws_l rfl rfl rfl rfl (rd_pick_f rfl rfl) ?_
          refine ws_l rfl rfl rfl rfl (rd_pick_t rfl rfl) ?_
          refine ws_nil ?_
          refine qe_then ?_
          refine wc_keep [(4, _), (7, _), (8, _), (10, _), (11, _), (75, _)] rfl ?_
          refine wc_true rfl ?_
          refine wc_seq ?_
          refine wc_plain [(0, .x true)] (by kernel_rfl) ?_
          refine ws_l rfl rfl rfl rfl (rd_assign rfl) ?_
          refine ws_nil ?_
          refine qe_then ?_
          refine wc_ret ?_
          refine qe_then_ret ?_
          refine qe_body _ (.inl rfl) (res1 rfl (RV.tmp rfl)) ?_
          exact ret_end fun w hp hn ho => rfl
        · intro h73
          refine ws_l rfl rfl rfl rfl (rd_pick_f rfl rfl) ?_
          refine ws_l rfl rfl rfl rfl (rd_pick_t rfl rfl) ?_
          refine ws_nil ?_
          refine qe_then ?_
          refine wc_keep [(4, _), (7, _), (8, _), (10, _), (11, _), (75, _)] rfl ?_
          refine wc_false rfl ?_
          refine wc_skip ?_
          refine qe_then ?_
          refine wc_seq ?_
          refine wc_plain [(0, .x true), (1, .x true), (2, .x true), (3, .x true)] (by kernel_rfl) ?_
          refine ws_l rfl rfl rfl rfl (rd_move rfl) ?_
          refine ws_l rfl rfl rfl rfl (rd_move rfl) ?_
          refine ws_l rfl rfl rfl rfl (rd_load rfl) ?_
          refine ws_callV (ringT m k es c ws d (facts W)) rfl rfl rfl rfl rfl (En.go) (fun w hp hn ho => add_law p m k es ws c d L W (buildF (ms.take 16)) hL hW hok hl24 v8 νl hlo.src more w (hp.mono SubH.mem) (SubH.nd hn)) (fun b hb => .inl (hpf' b (List.mem_cons_of_mem _ (by rw [List.map_append, List.mem_append]; exact .inl hb)))) (fun hh q h => by first | (cases h; done) | exact hh q h | (simp only [List.mem_append, List.mem_cons] at h ⊢; grind) | skip) ?_
          rintro v79 wa wb hpo hon hon2 hp1 ⟨u1, ν1, rfl, hν1, hnd1, hfar1, hdisj, es1, c1, ws1, d1, L1, W1, hp2, hnd2, hfar2, hL1, hW1, hok1⟩
          refine ⟨ringT m k es1 c1 ws1 d1 (facts W1) ++ ν1, hp2.append hν1, hnd2, fun b hb => by rw [List.map_append, List.mem_append] at hb; exact hb.elim (hfar2 b) (fun h => .inl (hfar1 b h)), ?_⟩
          simp only [List.cons_append, List.append_assoc]
          have hl25 : (addM (buildF (ms.take 16)) more).length < 8192 := by have h1 := addM_len (buildF (ms.take 16)) more; have h2 := buildF_len (ms.take 16); rw [List.length_take] at h2; omega
          refine ws_nil ?_
          refine qe_then ?_
          refine wc_keep [(7, _), (10, _), (11, _)] rfl ?_
          refine wc_seq ?_
          refine wc_plain [(0, .x true), (1, .x true), (2, .x true), (3, .x true), (4, .x true), (5, .x true)] (by kernel_rfl) ?_
          refine ws_l rfl rfl rfl rfl (rd_move rfl) ?_
          refine ws_l rfl rfl rfl rfl (rd_load rfl) ?_
          refine ws_call rfl rfl rfl rfl rfl (En.go) (fun w hp hn ho => chain_ret p m k es1 ws1 c1 d1 L1 W1 (addM (buildF (ms.take 16)) more) hL1 hW1 hok1 hl25 (ofF (pubV au)) w (hp.mono SubH.mem) (SubH.nd hn)) (fun _ h => by cases h) (fun hh q h => by first | (cases h; done) | exact hh q h) ?_
          rintro v82 wa wb hpo hon hon2 hp1 ⟨g15, ν15, rfl, hown15, hν15⟩
          refine ⟨ν15, hν15, hown15.nd, fun b hb => .inl (hown15.far b hb), ?_⟩
          replace hown15 := hown15.mono hon.size
          refine ws_l rfl rfl rfl rfl (rd_move rfl) ?_
          have hcl := chainF_len (addM (buildF (ms.take 16)) more) (ofF (pubV au))
          rw [List.take_of_length_le (by simp only [cmpP] at h40; omega)] at hin
          have hout : chainF (addM (buildF (ms.take 16)) more) (ofF (pubV au)) = (chainF (buildF (ms.take 16)) (ofF (pubV au))) := outsider hok.ok (buildF_key _) more _ (by
            rintro ⟨ha, hb⟩
            rcases hb with ⟨x, hx, hb⟩ | hb
            · have := List.any_eq_false.1 hin.symm x hx; simp at this; exact this hb.1 hb.2
            · exact h73 (by simp only [cmpP]; rw [hb]; rfl))
          refine ws_callp rfl rfl rfl rfl rfl (En.go) (fun w hp hn ho => by have h := chain_law g15.v v30 (ν15 ++ ν11) _ _ (hown15.src.mono (fun q hq => List.mem_append_left _ hq)) (hown11.src.mono (fun q hq => List.mem_append_right _ hq)) (by omega) w (hp.mono SubH.mem) (SubH.nd hn); rwa [decide_eq_true hout] at h) ?_
          refine ws_l rfl rfl rfl rfl (rd_assign rfl) ?_
          refine ws_nil ?_
          refine qe_then ?_
          refine wc_keep [(6, _)] rfl ?_
          refine wc_ret ?_
          refine qe_body _ (.inl rfl) (res1 rfl (RV.tmp rfl)) ?_
          exact ret_end fun w hp hn ho => rfl
      | true =>
        refine ws_l rfl rfl rfl rfl (rd_move rfl) ?_
        refine ws_l rfl rfl rfl rfl (rd_move rfl) ?_
        refine ws_xskip rfl rfl rfl rfl ?_
        refine ws_xskip rfl rfl rfl rfl ?_
        refine ws_xskip rfl rfl rfl rfl ?_
        refine ws_l rfl rfl rfl rfl (rd_pick_t rfl rfl) ?_
        refine ws_l rfl rfl rfl rfl (rd_pick_t rfl rfl) ?_
        refine ws_nil ?_
        refine qe_then ?_
        refine wc_keep [(4, _), (7, _), (8, _), (10, _), (11, _), (75, _)] rfl ?_
        refine wc_true rfl ?_
        refine wc_seq ?_
        refine wc_plain [(0, .x true)] (by kernel_rfl) ?_
        refine ws_l rfl rfl rfl rfl (rd_assign rfl) ?_
        refine ws_nil ?_
        refine qe_then ?_
        refine wc_ret ?_
        refine qe_then_ret ?_
        refine qe_body _ (.inl rfl) (res1 rfl (RV.tmp rfl)) ?_
        exact ret_end fun w hp hn ho => rfl
    · intro h67
      refine ws_l rfl rfl rfl rfl (rd_move rfl) ?_
      refine ws_xskip rfl rfl rfl rfl ?_
      refine ws_xskip rfl rfl rfl rfl ?_
      refine ws_xskip rfl rfl rfl rfl ?_
      refine ws_xskip rfl rfl rfl rfl ?_
      refine ws_xskip rfl rfl rfl rfl ?_
      refine ws_xskip rfl rfl rfl rfl ?_
      refine ws_l rfl rfl rfl rfl (rd_pick_f rfl rfl) ?_
      refine ws_nil ?_
      refine qe_then ?_
      refine wc_keep [(4, _), (7, _), (8, _), (10, _), (11, _), (75, _)] rfl ?_
      refine wc_false rfl ?_
      refine wc_skip ?_
      refine qe_then ?_
      refine wc_seq ?_
      refine wc_plain [(0, .x true), (1, .x true), (2, .x true), (3, .x true)] (by kernel_rfl) ?_
      refine ws_l rfl rfl rfl rfl (rd_move rfl) ?_
      refine ws_l rfl rfl rfl rfl (rd_move rfl) ?_
      refine ws_l rfl rfl rfl rfl (rd_load rfl) ?_
      refine ws_callV (ringT m k es c ws d (facts W)) rfl rfl rfl rfl rfl (En.go) (fun w hp hn ho => add_law p m k es ws c d L W (buildF (ms.take 16)) hL hW hok hl24 v8 νl hlo.src more w (hp.mono SubH.mem) (SubH.nd hn)) (fun b hb => .inl (hpf' b (List.mem_cons_of_mem _ (by rw [List.map_append, List.mem_append]; exact .inl hb)))) (fun hh q h => by first | (cases h; done) | exact hh q h | (simp only [List.mem_append, List.mem_cons] at h ⊢; grind) | skip) ?_
      rintro v79 wa wb hpo hon hon2 hp1 ⟨u1, ν1, rfl, hν1, hnd1, hfar1, hdisj, es1, c1, ws1, d1, L1, W1, hp2, hnd2, hfar2, hL1, hW1, hok1⟩
      refine ⟨ringT m k es1 c1 ws1 d1 (facts W1) ++ ν1, hp2.append hν1, hnd2, fun b hb => by rw [List.map_append, List.mem_append] at hb; exact hb.elim (hfar2 b) (fun h => .inl (hfar1 b h)), ?_⟩
      simp only [List.cons_append, List.append_assoc]
      have hl25 : (addM (buildF (ms.take 16)) more).length < 8192 := by have h1 := addM_len (buildF (ms.take 16)) more; have h2 := buildF_len (ms.take 16); rw [List.length_take] at h2; omega
      refine ws_nil ?_
      refine qe_then ?_
      refine wc_keep [(7, _), (10, _), (11, _)] rfl ?_
      refine wc_seq ?_
      refine wc_plain [(0, .x true), (1, .x true), (2, .x true), (3, .x true), (4, .x true), (5, .x true)] (by kernel_rfl) ?_
      refine ws_l rfl rfl rfl rfl (rd_move rfl) ?_
      refine ws_l rfl rfl rfl rfl (rd_load rfl) ?_
      refine ws_call rfl rfl rfl rfl rfl (En.go) (fun w hp hn ho => chain_ret p m k es1 ws1 c1 d1 L1 W1 (addM (buildF (ms.take 16)) more) hL1 hW1 hok1 hl25 (ofF (pubV au)) w (hp.mono SubH.mem) (SubH.nd hn)) (fun _ h => by cases h) (fun hh q h => by first | (cases h; done) | exact hh q h) ?_
      rintro v82 wa wb hpo hon hon2 hp1 ⟨g15, ν15, rfl, hown15, hν15⟩
      refine ⟨ν15, hν15, hown15.nd, fun b hb => .inl (hown15.far b hb), ?_⟩
      replace hown15 := hown15.mono hon.size
      refine ws_l rfl rfl rfl rfl (rd_move rfl) ?_
      have hcl := chainF_len (addM (buildF (ms.take 16)) more) (ofF (pubV au))
      rw [List.take_of_length_le (by simp only [cmpP] at h40; omega)] at hin
      have hout : chainF (addM (buildF (ms.take 16)) more) (ofF (pubV au)) = (chainF (buildF (ms.take 16)) (ofF (pubV au))) := outsider hok.ok (buildF_key _) more _ (by
        rintro ⟨ha, hb⟩
        exact h67 ha)
      refine ws_callp rfl rfl rfl rfl rfl (En.go) (fun w hp hn ho => by have h := chain_law g15.v v30 (ν15 ++ ν11) _ _ (hown15.src.mono (fun q hq => List.mem_append_left _ hq)) (hown11.src.mono (fun q hq => List.mem_append_right _ hq)) (by omega) w (hp.mono SubH.mem) (SubH.nd hn); rwa [decide_eq_true hout] at h) ?_
      refine ws_l rfl rfl rfl rfl (rd_assign rfl) ?_
      refine ws_nil ?_
      refine qe_then ?_
      refine wc_keep [(6, _)] rfl ?_
      refine wc_ret ?_
      refine qe_body _ (.inl rfl) (res1 rfl (RV.tmp rfl)) ?_
      exact ret_end fun w hp hn ho => rfl

end Go.Proofs.Ytheioljidangkaa
