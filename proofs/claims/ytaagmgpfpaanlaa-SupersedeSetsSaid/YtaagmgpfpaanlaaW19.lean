/- Walks: Path, End. No conditions. -/
import Derived.Test.YtaagmgpfpaanlaaPth
import Derived.Test.YtaagmgpfpaanlaaW15
namespace Go.Proofs.Ytaagmgpfpaanlaa
open Go Go.RowKit Go.Sx
set_option linter.unusedSimpArgs false
set_option linter.unusedVariables false

theorem id_own {base b : Nat} (id : Id) (h : base ≤ b) : OwnR base 38 32 (.slice (some ⟨b, 0, none⟩) 1 1) [(b, .cells (idC id) 38 (0, 0))] [id].length (idsL [id]) :=
  .inr ⟨b, 1, idC id, rfl, rfl, h, Nat.le_refl _, by simp [maxLen], by simp [idC_size], by simp only [List.flatMap_cons, List.flatMap_nil, List.append_nil, List.length_singleton]; exact List.take_of_length_le (by simp [idC_size]), by simp [idC_size]⟩
set_option maxRecDepth 100000 in
set_option maxHeartbeats 4000000 in
theorem path_ret (p m k : Nat) (es ws : Array MapEntry) (c d : Nat) (L : RMap) (W : WMap) (own : List RR) (ν : Heap) (hL : MapIs idK hrK es c L) (hW : MapIs idK wvK ws d W) (hok : SetOK ν L W own) (hlen : own.length < 8192) (id : Id) (w : World) (hη : HpOK (setC p m k es c ws d ν) w) (hnd : ((setC p m k es c ws d ν).map Prod.fst).Nodup) : Ret Try.prog 24 [ptr p, idK id] w [] (fun v w' => ∃ (g' : GV) (ν' : Heap), v = g'.v ∧ OwnR w.heap.size 38 32 g'.v ν' (pathI own id).length (idsL (pathI own id)) ∧ HpOK ν' w') := by
  refine enter (n := 46) (args := [ptr p, idK id]) [] (setC p m k es c ws d ν) Try.func24 rfl rfl rfl hη hnd ?_
  refine wc_seq ?_
  refine wc_plain [(0, .x true), (1, .x true)] (by kernel_rfl) ?_
  refine ws_box rfl rfl rfl rfl ?_
  intro b3 hb3
  refine ws_l rfl rfl rfl rfl (rd_assign rfl) ?_
  refine ws_nil ?_
  refine qe_then ?_
  refine wc_seq ?_
  refine wc_seq ?_
  refine wc_plain [(0, .x true), (1, .x true), (2, .x true), (3, .x true)] (by kernel_rfl) ?_
  refine ws_l rfl rfl rfl rfl (rd_move rfl) ?_
  refine ws_l rfl rfl rfl rfl (rd_load rfl) ?_
  refine ws_callb (decide _) rfl rfl rfl rfl rfl (En.go) (fun w hp hn ho => has_ret p m k es ws c d L W own ν hL hW hok hlen id w (hp.mono SubH.mem) hnd) ?_ ?_
  · intro hhas
    have hhas := of_decide_eq_true hhas
    obtain ⟨x, hx, rfl⟩ := hhas
    refine ws_l rfl rfl rfl rfl (rd_not rfl) ?_
    refine ws_nil ?_
    refine qe_then ?_
    refine wc_false rfl ?_
    refine wc_skip ?_
    refine qe_then ?_
    refine wc_keep [(0, _), (3, _), (4, _)] rfl ?_
    refine wc_seq ?_
    refine wc_drawnO mixedT _ (fun _ h => h) (.r 0 (.r 3 (.b 1 2 (.seq [(6, .r), (2, .x false), (4, .x false), (5, .r), (7, .x true)]) (.b 1 4 (.seq [(6, .r), (4, .x false), (5, .r), (7, .x true)]) (.seq [(5, .r), (1, .x false), (6, .r), (7, .x true)]))))) (by kernel_rfl) ?_
    refine od_r ?_
    refine ws_r rfl rfl rfl rfl (rd_load rfl) ?_
    refine od_go ?_
    refine od_r ?_
    refine ws_r rfl rfl rfl rfl (rd_load rfl) ?_
    refine od_go ?_
    refine od_b ?_ ?_
    ·
      refine ws_buildSlice rfl rfl rfl rfl ?_
      intro b13 hb13
      refine od_go ?_
      refine od_seq ?_
      refine ws_r rfl rfl rfl rfl (rd_assign rfl) ?_
      refine ws_makeMap rfl rfl rfl ?_
      intro b14 hb14
      refine ws_insert (ek := idK) (en := bK) (a := x.id) (b := true) Try.underlying89 (MapIs.empty idK bK 0) rfl rfl rfl rfl rfl (.inl hb14) (fun _ _ _ h _ => by first | (cases h; done) | (simp only [List.mem_append, List.mem_cons] at h ⊢; grind)) ?_
      intro em0 cm0 hS0
      refine ws_r rfl rfl rfl rfl (rd_move rfl) ?_
      refine ws_late rfl ?_
      refine ws_l rfl rfl rfl rfl (rd_assign rfl) ?_
      refine ws_nil ?_
      refine qe_then ?_
      refine wc_keep [(0, _), (3, _), (4, _), (5, _), (6, _)] rfl ?_
      refine wc_seq ?_
      refine wc_seq ?_
      refine wc_plain [(0, .x true), (1, .x true), (2, .x true), (3, .x true)] (by kernel_rfl) ?_
      refine ws_l rfl rfl rfl rfl (rd_move rfl) ?_
      refine ws_l rfl rfl rfl rfl (rd_load rfl) ?_
      refine ws_call rfl rfl rfl rfl rfl (En.go) (fun w hp hn ho => succ_ret p m k es ws c d L W own ν hL hW hok hlen x.id w (hp.mono SubH.mem) (SubH.nd hn)) (fun _ h => by cases h) (fun hh q h => by first | (cases h; done) | exact hh q h) ?_
      rintro v19 wa wb hpo hon hon2 hp1 ⟨g7i, ν7i, rfl, hown7i, hν7i⟩
      refine ⟨ν7i, hν7i, hown7i.nd, fun b hb => .inl (hown7i.far b hb), ?_⟩
      replace hown7i := hown7i.mono hon.size
      refine ws_l rfl rfl rfl rfl (rd_assign rfl) ?_
      refine ws_nil ?_
      refine qe_then ?_
      refine wc_block ?_
      refine wc_loop (fun mz ac w1 => ∃ (path : List Id) (cur : Id) (v5 : Value) (ν5 : Heap) (v7 : Value) (ν7 : Heap) (em : Array MapEntry) (cm : Nat) (S : List (Id × Bool)), mz = own.length - path.length ∧ (OwnR w.heap.size 38 32 v5 ν5 path.length (idsL path)) ∧ (OwnR w.heap.size 38 32 v7 ν7 (succI own cur).length (idsL (succI own cur))) ∧ (MapIs idK bK em cm S) ∧ (∀ z, mlook S z = if z ∈ path then some true else none) ∧ (path.Nodup) ∧ (∀ z ∈ path, ∃ t ∈ own, t.id = z) ∧ (pathF own (own.length + 1 - path.length) path cur = pathI own x.id) ∧ St 46 w [] [(0, ptr p), (5, v5), (6, .map (some b14)), (7, v7)] ((b14, .map em cm) :: (ν5 ++ (ν7 ++ setC p m k es c ws d ν))) ac w1) _ (fun ac w1 hs => ⟨[x.id], x.id, _, [(b13, .cells (idC x.id) 38 (0, 0))], _, ν7i, em0, cm0, _, rfl, (id_own x.id hb13), (hown7i), (hS0), (fun z => by rw [mlook_upd]; simp [mlook]), (by simp), (by simp; exact ⟨x, hx, rfl⟩), (by rw [pathI, if_pos ⟨x, hx, rfl⟩]; rfl), st_sub hs _ rfl⟩) ?_
      rintro _ ac1 wl1 ⟨path, cur, v5, ν5, v7, ν7, em, cm, S, rfl, hown5, hown7, hS, hSm, hpn, hps, hf, hs1⟩
      refine wc_at hs1 ?_
      have hpl0 := path_len hpn hps
      refine wc_seq ?_
      refine wc_seq ?_
      refine wc_plain [(0, .x true), (1, .x true), (2, .x true)] (by kernel_rfl) ?_
      refine ws_l rfl rfl rfl rfl (rd_move rfl) ?_
      refine ws_l rfl rfl rfl rfl (rd_lenO hown7 rfl Try.underlying26) ?_
      refine ws_lcmp rfl rfl rfl (rfl) (rfl) (rfl) ?_ ?_
      · intro h22
        refine ws_nil ?_
        refine qe_then ?_
        refine wc_true rfl ?_
        refine wc_skip ?_
        refine qe_then ?_
        refine wc_seq ?_
        refine wc_block ?_
        refine wc_seq ?_
        refine wc_seq ?_
        refine wc_plain [(0, .x true), (1, .x true), (2, .x true), (3, .x true), (4, .x true)] (by kernel_rfl) ?_
        refine ws_l rfl rfl rfl rfl (rd_move rfl) ?_
        refine ws_l rfl rfl rfl rfl (rd_move rfl) ?_
        obtain ⟨q7, cap7, cur7, rfl, rfl, hq7, hcap7, hcur7⟩ := OwnR.opened hown7 (by simp only [cmpP] at h22; omega)
        obtain ⟨y, hy⟩ := at_ex (l := succI own cur) (j := 0) (by simp only [cmpP] at h22; omega)
        have at7 : ReadsAt Try.prog 38 cur7 (0 * 32) (idK y) := ids_get hcur7 hy
        obtain ⟨rest, hrest⟩ : ∃ rest, succI own cur = y :: rest := by cases hs : succI own cur with | nil => rw [hs] at hy; cases hy | cons a r => rw [hs] at hy; cases hy; exact ⟨r, rfl⟩
        refine ws_l rfl rfl rfl rfl (rd_ix (j := 0) rfl rfl Try.underlying26 Try.sizeOf38 (by simp only [cmpP] at h22; omega)) ?_
        refine ws_l rfl rfl rfl rfl (rd_load rfl) ?_
        by_cases hym : y ∈ path
        ·
          refine ws_l rfl rfl rfl rfl (rd_look_some (c := false) (ek := idK) (en := bK) Try.underlying89 hS (by have h := hSm y; rw [if_pos hym] at h; exact h) rfl rfl) ?_
          refine ws_nil ?_
          refine qe_then ?_
          refine wc_true rfl ?_
          refine wc_seq ?_
          refine wc_plain [(0, .x true)] (by kernel_rfl) ?_
          refine ws_l rfl rfl rfl rfl (rd_assign rfl) ?_
          refine ws_nil ?_
          refine qe_then ?_
          refine wc_ret ?_
          refine qe_then_ret ?_
          refine qe_block_ret ?_
          refine qe_then_ret ?_
          refine qe_then_ret ?_
          refine qe_block_ret ?_
          refine qe_then_ret ?_
          refine qe_body _ (.inl rfl) (res1 rfl (RV.tmp rfl)) ?_
          exact ret_end fun w hp hn ho => ⟨gnil, [], rfl, by rw [← hf, path_met hpn hps hrest hym]; exact OwnR.nil _ _ _, HpOK.nil w⟩
        ·
          refine ws_l rfl rfl rfl rfl (rd_look_none (c := false) (ek := idK) (en := bK) Try.underlying89 hS zero4 (by have h := hSm y; rw [if_neg hym] at h; exact h) rfl rfl) ?_
          obtain ⟨hpl, hpn2, hps2, hstep⟩ := path_step hpn hps hok.nd hrest hym
          refine ws_nil ?_
          refine qe_then ?_
          refine wc_false rfl ?_
          refine wc_skip ?_
          refine qe_then ?_
          refine wc_drawn mixedT [(q7, .cells cur7 38 (0, 0))] (fun q h => by simp at h; simp [h]) [(0, .r), (1, .r), (2, .r), (3, .r), (4, .r), (5, .r), (6, .r), (7, .r), (8, .x false), (9, .x false), (10, .r), (11, .x true), (12, .x true), (13, .x true)] (by kernel_rfl) ?_
          refine ws_r rfl rfl rfl rfl (rd_move rfl) ?_
          refine ws_r rfl rfl rfl rfl (rd_move rfl) ?_
          refine ws_r rfl rfl rfl rfl (rd_ix (j := 0) rfl rfl Try.underlying26 Try.sizeOf38 (by simp only [cmpP] at h22; omega)) ?_
          refine ws_r rfl rfl rfl rfl (rd_load rfl) ?_
          refine ws_r rfl rfl rfl rfl (rd_move rfl) ?_
          refine ws_r rfl rfl rfl rfl (rd_move rfl) ?_
          refine ws_r rfl rfl rfl rfl (rd_ix (j := 0) rfl rfl Try.underlying26 Try.sizeOf38 (by simp only [cmpP] at h22; omega)) ?_
          refine ws_r rfl rfl rfl rfl (rd_load rfl) ?_
          refine ws_buildSlice rfl rfl rfl rfl ?_
          intro b41 hb41
          refine ws_append rfl rfl rfl rfl rfl hown5 (by simp [idC_size]) (idC_one _) (by simp only [maxLen]; omega) (by omega) (fun _ _ _ h => by first | (cases h; done) | (simp only [List.mem_append, List.mem_cons] at h ⊢; grind) | skip) ?_
          intro v5' ν5' hown5'
          refine ws_r rfl rfl rfl rfl (rd_assign rfl) ?_
          refine ws_late rfl ?_
          refine ws_mapEntry (ek := idK) (en := bK) (a := y) Try.underlying89 hS false zero4 rfl rfl rfl rfl rfl (.inl hb14) (fun _ _ _ h _ => by first | (cases h; done) | (simp only [List.mem_append, List.mem_cons] at h ⊢; grind)) ?_
          intro em1 cm1 stamp hS1 hop1
          refine ws_l rfl rfl rfl rfl (rd_extract rfl) ?_
          refine ws_entryStore (ek := idK) (en := bK) (a := y) (b := true) (K := 38) hS1 hop1 rfl rfl rfl rfl rfl (.inl hb14) (fun _ _ h _ => by first | (cases h; done) | (simp only [List.mem_append, List.mem_cons] at h ⊢; grind)) ?_
          intro em2 hS2
          refine ws_nil ?_
          refine qe_block ?_
          refine qe_then ?_
          refine wc_plain [(0, .x true), (1, .x true), (2, .x true), (3, .x true), (4, .x true), (5, .x true)] (by kernel_rfl) ?_
          refine ws_l rfl rfl rfl rfl (rd_move rfl) ?_
          refine ws_l rfl rfl rfl rfl (rd_move rfl) ?_
          refine ws_l rfl rfl rfl rfl (rd_ix (j := 0) rfl rfl Try.underlying26 Try.sizeOf38 (by simp only [cmpP] at h22; omega)) ?_
          refine ws_l rfl rfl rfl rfl (rd_load rfl) ?_
          refine ws_call rfl rfl rfl rfl rfl (En.go) (fun w hp hn ho => succ_ret p m k es ws c d L W own ν hL hW hok hlen y w (hp.mono SubH.mem) (SubH.nd hn)) (fun _ h => by cases h) (fun hh q h => by first | (cases h; done) | exact hh q h) ?_
          rintro v27 wa wb hpo hon hon2 hp1 ⟨g9, ν9, rfl, hown9, hν9⟩
          refine ⟨ν9, hν9, hown9.nd, fun b hb => .inl (hown9.far b hb), ?_⟩
          replace hown9 := hown9.mono hon.size
          refine ws_l rfl rfl rfl rfl (rd_assign rfl) ?_
          refine ws_nil ?_
          exact qe_loop fun ac2 w2 hs2 => ⟨_, by (rw [List.length_append, List.length_singleton]; omega), path ++ [y], y, v5', ν5', _, ν9, em2, cm1, _, rfl, (Row.app (enc := idL) hown5' rfl (by simp)), (hown9), (hS2), (fun z => by rw [mlook_upd, mlook_upd, hSm]; by_cases hz : z = y <;> simp [hz]), (hpn2), (hps2), (by rw [← hstep]; exact hf), st_sub hs2 _ rfl⟩
      · intro h22
        refine ws_nil ?_
        refine qe_then ?_
        refine wc_false rfl ?_
        refine wc_exit ?_
        refine qe_then_exit ?_
        refine qe_then_exit ?_
        refine qe_block_exit ?_
        refine qe_then ?_
        refine wc_keep [(5, _)] rfl ?_
        refine wc_seq ?_
        refine wc_plain [(0, .x true), (1, .x true)] (by kernel_rfl) ?_
        refine ws_l rfl rfl rfl rfl (rd_move rfl) ?_
        refine ws_l rfl rfl rfl rfl (rd_assign rfl) ?_
        refine ws_nil ?_
        refine qe_then ?_
        refine wc_ret ?_
        refine qe_body _ (.inl rfl) (res1 rfl (RV.tmp rfl)) ?_
        have hnil : succI own cur = [] := List.eq_nil_of_length_eq_zero (by simp only [cmpP] at h22; omega)
        rw [path_end hpn hps hnil] at hf
        subst hf
        obtain ⟨g5, rfl, -⟩ := OwnR.gv hown5
        exact ret_end fun w hp hn ho => ⟨g5, ν5, rfl, hown5, (hp.mono SubH.mem)⟩
    ·
      refine ws_makeMap rfl rfl rfl ?_
      intro b14 hb14
      refine od_go ?_
      refine od_b ?_ ?_
      ·
        refine ws_buildSlice rfl rfl rfl rfl ?_
        intro b13 hb13
        refine od_go ?_
        refine od_seq ?_
        refine ws_r rfl rfl rfl rfl (rd_assign rfl) ?_
        refine ws_insert (ek := idK) (en := bK) (a := x.id) (b := true) Try.underlying89 (MapIs.empty idK bK 0) rfl rfl rfl rfl rfl (.inl hb14) (fun _ _ _ h _ => by first | (cases h; done) | (simp only [List.mem_append, List.mem_cons] at h ⊢; grind)) ?_
        intro em0 cm0 hS0
        refine ws_r rfl rfl rfl rfl (rd_move rfl) ?_
        refine ws_late rfl ?_
        refine ws_l rfl rfl rfl rfl (rd_assign rfl) ?_
        refine ws_nil ?_
        refine qe_then ?_
        refine wc_keep [(0, _), (3, _), (4, _), (5, _), (6, _)] rfl ?_
        refine wc_seq ?_
        refine wc_seq ?_
        refine wc_plain [(0, .x true), (1, .x true), (2, .x true), (3, .x true)] (by kernel_rfl) ?_
        refine ws_l rfl rfl rfl rfl (rd_move rfl) ?_
        refine ws_l rfl rfl rfl rfl (rd_load rfl) ?_
        refine ws_call rfl rfl rfl rfl rfl (En.go) (fun w hp hn ho => succ_ret p m k es ws c d L W own ν hL hW hok hlen x.id w (hp.mono SubH.mem) (SubH.nd hn)) (fun _ h => by cases h) (fun hh q h => by first | (cases h; done) | exact hh q h) ?_
        rintro v19 wa wb hpo hon hon2 hp1 ⟨g7i, ν7i, rfl, hown7i, hν7i⟩
        refine ⟨ν7i, hν7i, hown7i.nd, fun b hb => .inl (hown7i.far b hb), ?_⟩
        replace hown7i := hown7i.mono hon.size
        refine ws_l rfl rfl rfl rfl (rd_assign rfl) ?_
        refine ws_nil ?_
        refine qe_then ?_
        refine wc_block ?_
        refine wc_loop (fun mz ac w1 => ∃ (path : List Id) (cur : Id) (v5 : Value) (ν5 : Heap) (v7 : Value) (ν7 : Heap) (em : Array MapEntry) (cm : Nat) (S : List (Id × Bool)), mz = own.length - path.length ∧ (OwnR w.heap.size 38 32 v5 ν5 path.length (idsL path)) ∧ (OwnR w.heap.size 38 32 v7 ν7 (succI own cur).length (idsL (succI own cur))) ∧ (MapIs idK bK em cm S) ∧ (∀ z, mlook S z = if z ∈ path then some true else none) ∧ (path.Nodup) ∧ (∀ z ∈ path, ∃ t ∈ own, t.id = z) ∧ (pathF own (own.length + 1 - path.length) path cur = pathI own x.id) ∧ St 46 w [] [(0, ptr p), (5, v5), (6, .map (some b14)), (7, v7)] ((b14, .map em cm) :: (ν5 ++ (ν7 ++ setC p m k es c ws d ν))) ac w1) _ (fun ac w1 hs => ⟨[x.id], x.id, _, [(b13, .cells (idC x.id) 38 (0, 0))], _, ν7i, em0, cm0, _, rfl, (id_own x.id hb13), (hown7i), (hS0), (fun z => by rw [mlook_upd]; simp [mlook]), (by simp), (by simp; exact ⟨x, hx, rfl⟩), (by rw [pathI, if_pos ⟨x, hx, rfl⟩]; rfl), st_sub hs _ rfl⟩) ?_
        rintro _ ac2 wl2 ⟨path, cur, v5, ν5, v7, ν7, em, cm, S, rfl, hown5, hown7, hS, hSm, hpn, hps, hf, hs2⟩
        refine wc_at hs2 ?_
        have hpl0 := path_len hpn hps
        refine wc_seq ?_
        refine wc_seq ?_
        refine wc_plain [(0, .x true), (1, .x true), (2, .x true)] (by kernel_rfl) ?_
        refine ws_l rfl rfl rfl rfl (rd_move rfl) ?_
        refine ws_l rfl rfl rfl rfl (rd_lenO hown7 rfl Try.underlying26) ?_
        refine ws_lcmp rfl rfl rfl (rfl) (rfl) (rfl) ?_ ?_
        · intro h22
          refine ws_nil ?_
          refine qe_then ?_
          refine wc_true rfl ?_
          refine wc_skip ?_
          refine qe_then ?_
          refine wc_seq ?_
          refine wc_block ?_
          refine wc_seq ?_
          refine wc_seq ?_
          refine wc_plain [(0, .x true), (1, .x true), (2, .x true), (3, .x true), (4, .x true)] (by kernel_rfl) ?_
          refine ws_l rfl rfl rfl rfl (rd_move rfl) ?_
          refine ws_l rfl rfl rfl rfl (rd_move rfl) ?_
          obtain ⟨q7, cap7, cur7, rfl, rfl, hq7, hcap7, hcur7⟩ := OwnR.opened hown7 (by simp only [cmpP] at h22; omega)
          obtain ⟨y, hy⟩ := at_ex (l := succI own cur) (j := 0) (by simp only [cmpP] at h22; omega)
          have at7 : ReadsAt Try.prog 38 cur7 (0 * 32) (idK y) := ids_get hcur7 hy
          obtain ⟨rest, hrest⟩ : ∃ rest, succI own cur = y :: rest := by cases hs : succI own cur with | nil => rw [hs] at hy; cases hy | cons a r => rw [hs] at hy; cases hy; exact ⟨r, rfl⟩
          refine ws_l rfl rfl rfl rfl (rd_ix (j := 0) rfl rfl Try.underlying26 Try.sizeOf38 (by simp only [cmpP] at h22; omega)) ?_
          refine ws_l rfl rfl rfl rfl (rd_load rfl) ?_
          by_cases hym : y ∈ path
          ·
            refine ws_l rfl rfl rfl rfl (rd_look_some (c := false) (ek := idK) (en := bK) Try.underlying89 hS (by have h := hSm y; rw [if_pos hym] at h; exact h) rfl rfl) ?_
            refine ws_nil ?_
            refine qe_then ?_
            refine wc_true rfl ?_
            refine wc_seq ?_
            refine wc_plain [(0, .x true)] (by kernel_rfl) ?_
            refine ws_l rfl rfl rfl rfl (rd_assign rfl) ?_
            refine ws_nil ?_
            refine qe_then ?_
            refine wc_ret ?_
            refine qe_then_ret ?_
            refine qe_block_ret ?_
            refine qe_then_ret ?_
            refine qe_then_ret ?_
            refine qe_block_ret ?_
            refine qe_then_ret ?_
            refine qe_body _ (.inl rfl) (res1 rfl (RV.tmp rfl)) ?_
            exact ret_end fun w hp hn ho => ⟨gnil, [], rfl, by rw [← hf, path_met hpn hps hrest hym]; exact OwnR.nil _ _ _, HpOK.nil w⟩
          ·
            refine ws_l rfl rfl rfl rfl (rd_look_none (c := false) (ek := idK) (en := bK) Try.underlying89 hS zero4 (by have h := hSm y; rw [if_neg hym] at h; exact h) rfl rfl) ?_
            obtain ⟨hpl, hpn2, hps2, hstep⟩ := path_step hpn hps hok.nd hrest hym
            refine ws_nil ?_
            refine qe_then ?_
            refine wc_false rfl ?_
            refine wc_skip ?_
            refine qe_then ?_
            refine wc_drawn mixedT [(q7, .cells cur7 38 (0, 0))] (fun q h => by simp at h; simp [h]) [(0, .r), (1, .r), (2, .r), (3, .r), (4, .r), (5, .r), (6, .r), (7, .r), (8, .x false), (9, .x false), (10, .r), (11, .x true), (12, .x true), (13, .x true)] (by kernel_rfl) ?_
            refine ws_r rfl rfl rfl rfl (rd_move rfl) ?_
            refine ws_r rfl rfl rfl rfl (rd_move rfl) ?_
            refine ws_r rfl rfl rfl rfl (rd_ix (j := 0) rfl rfl Try.underlying26 Try.sizeOf38 (by simp only [cmpP] at h22; omega)) ?_
            refine ws_r rfl rfl rfl rfl (rd_load rfl) ?_
            refine ws_r rfl rfl rfl rfl (rd_move rfl) ?_
            refine ws_r rfl rfl rfl rfl (rd_move rfl) ?_
            refine ws_r rfl rfl rfl rfl (rd_ix (j := 0) rfl rfl Try.underlying26 Try.sizeOf38 (by simp only [cmpP] at h22; omega)) ?_
            refine ws_r rfl rfl rfl rfl (rd_load rfl) ?_
            refine ws_buildSlice rfl rfl rfl rfl ?_
            intro b41 hb41
            refine ws_append rfl rfl rfl rfl rfl hown5 (by simp [idC_size]) (idC_one _) (by simp only [maxLen]; omega) (by omega) (fun _ _ _ h => by first | (cases h; done) | (simp only [List.mem_append, List.mem_cons] at h ⊢; grind) | skip) ?_
            intro v5' ν5' hown5'
            refine ws_r rfl rfl rfl rfl (rd_assign rfl) ?_
            refine ws_late rfl ?_
            refine ws_mapEntry (ek := idK) (en := bK) (a := y) Try.underlying89 hS false zero4 rfl rfl rfl rfl rfl (.inl hb14) (fun _ _ _ h _ => by first | (cases h; done) | (simp only [List.mem_append, List.mem_cons] at h ⊢; grind)) ?_
            intro em1 cm1 stamp hS1 hop1
            refine ws_l rfl rfl rfl rfl (rd_extract rfl) ?_
            refine ws_entryStore (ek := idK) (en := bK) (a := y) (b := true) (K := 38) hS1 hop1 rfl rfl rfl rfl rfl (.inl hb14) (fun _ _ h _ => by first | (cases h; done) | (simp only [List.mem_append, List.mem_cons] at h ⊢; grind)) ?_
            intro em2 hS2
            refine ws_nil ?_
            refine qe_block ?_
            refine qe_then ?_
            refine wc_plain [(0, .x true), (1, .x true), (2, .x true), (3, .x true), (4, .x true), (5, .x true)] (by kernel_rfl) ?_
            refine ws_l rfl rfl rfl rfl (rd_move rfl) ?_
            refine ws_l rfl rfl rfl rfl (rd_move rfl) ?_
            refine ws_l rfl rfl rfl rfl (rd_ix (j := 0) rfl rfl Try.underlying26 Try.sizeOf38 (by simp only [cmpP] at h22; omega)) ?_
            refine ws_l rfl rfl rfl rfl (rd_load rfl) ?_
            refine ws_call rfl rfl rfl rfl rfl (En.go) (fun w hp hn ho => succ_ret p m k es ws c d L W own ν hL hW hok hlen y w (hp.mono SubH.mem) (SubH.nd hn)) (fun _ h => by cases h) (fun hh q h => by first | (cases h; done) | exact hh q h) ?_
            rintro v27 wa wb hpo hon hon2 hp1 ⟨g9, ν9, rfl, hown9, hν9⟩
            refine ⟨ν9, hν9, hown9.nd, fun b hb => .inl (hown9.far b hb), ?_⟩
            replace hown9 := hown9.mono hon.size
            refine ws_l rfl rfl rfl rfl (rd_assign rfl) ?_
            refine ws_nil ?_
            exact qe_loop fun ac2 w2 hs2 => ⟨_, by (rw [List.length_append, List.length_singleton]; omega), path ++ [y], y, v5', ν5', _, ν9, em2, cm1, _, rfl, (Row.app (enc := idL) hown5' rfl (by simp)), (hown9), (hS2), (fun z => by rw [mlook_upd, mlook_upd, hSm]; by_cases hz : z = y <;> simp [hz]), (hpn2), (hps2), (by rw [← hstep]; exact hf), st_sub hs2 _ rfl⟩
        · intro h22
          refine ws_nil ?_
          refine qe_then ?_
          refine wc_false rfl ?_
          refine wc_exit ?_
          refine qe_then_exit ?_
          refine qe_then_exit ?_
          refine qe_block_exit ?_
          refine qe_then ?_
          refine wc_keep [(5, _)] rfl ?_
          refine wc_seq ?_
          refine wc_plain [(0, .x true), (1, .x true)] (by kernel_rfl) ?_
          refine ws_l rfl rfl rfl rfl (rd_move rfl) ?_
          refine ws_l rfl rfl rfl rfl (rd_assign rfl) ?_
          refine ws_nil ?_
          refine qe_then ?_
          refine wc_ret ?_
          refine qe_body _ (.inl rfl) (res1 rfl (RV.tmp rfl)) ?_
          have hnil : succI own cur = [] := List.eq_nil_of_length_eq_zero (by simp only [cmpP] at h22; omega)
          rw [path_end hpn hps hnil] at hf
          subst hf
          obtain ⟨g5, rfl, -⟩ := OwnR.gv hown5
          exact ret_end fun w hp hn ho => ⟨g5, ν5, rfl, hown5, (hp.mono SubH.mem)⟩
      ·
        refine ws_insert (ek := idK) (en := bK) (a := x.id) (b := true) Try.underlying89 (MapIs.empty idK bK 0) rfl rfl rfl rfl rfl (.inl hb14) (fun _ _ _ h _ => by first | (cases h; done) | (simp only [List.mem_append, List.mem_cons] at h ⊢; grind)) ?_
        intro em0 cm0 hS0
        refine od_go ?_
        refine od_seq ?_
        refine ws_r rfl rfl rfl rfl (rd_move rfl) ?_
        refine ws_buildSlice rfl rfl rfl rfl ?_
        intro b13 hb13
        refine ws_r rfl rfl rfl rfl (rd_assign rfl) ?_
        refine ws_late rfl ?_
        refine ws_l rfl rfl rfl rfl (rd_assign rfl) ?_
        refine ws_nil ?_
        refine qe_then ?_
        refine wc_keep [(0, _), (3, _), (4, _), (5, _), (6, _)] rfl ?_
        refine wc_seq ?_
        refine wc_seq ?_
        refine wc_plain [(0, .x true), (1, .x true), (2, .x true), (3, .x true)] (by kernel_rfl) ?_
        refine ws_l rfl rfl rfl rfl (rd_move rfl) ?_
        refine ws_l rfl rfl rfl rfl (rd_load rfl) ?_
        refine ws_call rfl rfl rfl rfl rfl (En.go) (fun w hp hn ho => succ_ret p m k es ws c d L W own ν hL hW hok hlen x.id w (hp.mono SubH.mem) (SubH.nd hn)) (fun _ h => by cases h) (fun hh q h => by first | (cases h; done) | exact hh q h) ?_
        rintro v19 wa wb hpo hon hon2 hp1 ⟨g7i, ν7i, rfl, hown7i, hν7i⟩
        refine ⟨ν7i, hν7i, hown7i.nd, fun b hb => .inl (hown7i.far b hb), ?_⟩
        replace hown7i := hown7i.mono hon.size
        refine ws_l rfl rfl rfl rfl (rd_assign rfl) ?_
        refine ws_nil ?_
        refine qe_then ?_
        refine wc_block ?_
        refine wc_loop (fun mz ac w1 => ∃ (path : List Id) (cur : Id) (v5 : Value) (ν5 : Heap) (v7 : Value) (ν7 : Heap) (em : Array MapEntry) (cm : Nat) (S : List (Id × Bool)), mz = own.length - path.length ∧ (OwnR w.heap.size 38 32 v5 ν5 path.length (idsL path)) ∧ (OwnR w.heap.size 38 32 v7 ν7 (succI own cur).length (idsL (succI own cur))) ∧ (MapIs idK bK em cm S) ∧ (∀ z, mlook S z = if z ∈ path then some true else none) ∧ (path.Nodup) ∧ (∀ z ∈ path, ∃ t ∈ own, t.id = z) ∧ (pathF own (own.length + 1 - path.length) path cur = pathI own x.id) ∧ St 46 w [] [(0, ptr p), (5, v5), (6, .map (some b14)), (7, v7)] ((b14, .map em cm) :: (ν5 ++ (ν7 ++ setC p m k es c ws d ν))) ac w1) _ (fun ac w1 hs => ⟨[x.id], x.id, _, [(b13, .cells (idC x.id) 38 (0, 0))], _, ν7i, em0, cm0, _, rfl, (id_own x.id hb13), (hown7i), (hS0), (fun z => by rw [mlook_upd]; simp [mlook]), (by simp), (by simp; exact ⟨x, hx, rfl⟩), (by rw [pathI, if_pos ⟨x, hx, rfl⟩]; rfl), st_sub hs _ rfl⟩) ?_
        rintro _ ac3 wl3 ⟨path, cur, v5, ν5, v7, ν7, em, cm, S, rfl, hown5, hown7, hS, hSm, hpn, hps, hf, hs3⟩
        refine wc_at hs3 ?_
        have hpl0 := path_len hpn hps
        refine wc_seq ?_
        refine wc_seq ?_
        refine wc_plain [(0, .x true), (1, .x true), (2, .x true)] (by kernel_rfl) ?_
        refine ws_l rfl rfl rfl rfl (rd_move rfl) ?_
        refine ws_l rfl rfl rfl rfl (rd_lenO hown7 rfl Try.underlying26) ?_
        refine ws_lcmp rfl rfl rfl (rfl) (rfl) (rfl) ?_ ?_
        · intro h22
          refine ws_nil ?_
          refine qe_then ?_
          refine wc_true rfl ?_
          refine wc_skip ?_
          refine qe_then ?_
          refine wc_seq ?_
          refine wc_block ?_
          refine wc_seq ?_
          refine wc_seq ?_
          refine wc_plain [(0, .x true), (1, .x true), (2, .x true), (3, .x true), (4, .x true)] (by kernel_rfl) ?_
          refine ws_l rfl rfl rfl rfl (rd_move rfl) ?_
          refine ws_l rfl rfl rfl rfl (rd_move rfl) ?_
          obtain ⟨q7, cap7, cur7, rfl, rfl, hq7, hcap7, hcur7⟩ := OwnR.opened hown7 (by simp only [cmpP] at h22; omega)
          obtain ⟨y, hy⟩ := at_ex (l := succI own cur) (j := 0) (by simp only [cmpP] at h22; omega)
          have at7 : ReadsAt Try.prog 38 cur7 (0 * 32) (idK y) := ids_get hcur7 hy
          obtain ⟨rest, hrest⟩ : ∃ rest, succI own cur = y :: rest := by cases hs : succI own cur with | nil => rw [hs] at hy; cases hy | cons a r => rw [hs] at hy; cases hy; exact ⟨r, rfl⟩
          refine ws_l rfl rfl rfl rfl (rd_ix (j := 0) rfl rfl Try.underlying26 Try.sizeOf38 (by simp only [cmpP] at h22; omega)) ?_
          refine ws_l rfl rfl rfl rfl (rd_load rfl) ?_
          by_cases hym : y ∈ path
          ·
            refine ws_l rfl rfl rfl rfl (rd_look_some (c := false) (ek := idK) (en := bK) Try.underlying89 hS (by have h := hSm y; rw [if_pos hym] at h; exact h) rfl rfl) ?_
            refine ws_nil ?_
            refine qe_then ?_
            refine wc_true rfl ?_
            refine wc_seq ?_
            refine wc_plain [(0, .x true)] (by kernel_rfl) ?_
            refine ws_l rfl rfl rfl rfl (rd_assign rfl) ?_
            refine ws_nil ?_
            refine qe_then ?_
            refine wc_ret ?_
            refine qe_then_ret ?_
            refine qe_block_ret ?_
            refine qe_then_ret ?_
            refine qe_then_ret ?_
            refine qe_block_ret ?_
            refine qe_then_ret ?_
            refine qe_body _ (.inl rfl) (res1 rfl (RV.tmp rfl)) ?_
            exact ret_end fun w hp hn ho => ⟨gnil, [], rfl, by rw [← hf, path_met hpn hps hrest hym]; exact OwnR.nil _ _ _, HpOK.nil w⟩
          ·
            refine ws_l rfl rfl rfl rfl (rd_look_none (c := false) (ek := idK) (en := bK) Try.underlying89 hS zero4 (by have h := hSm y; rw [if_neg hym] at h; exact h) rfl rfl) ?_
            obtain ⟨hpl, hpn2, hps2, hstep⟩ := path_step hpn hps hok.nd hrest hym
            refine ws_nil ?_
            refine qe_then ?_
            refine wc_false rfl ?_
            refine wc_skip ?_
            refine qe_then ?_
            refine wc_drawn mixedT [(q7, .cells cur7 38 (0, 0))] (fun q h => by simp at h; simp [h]) [(0, .r), (1, .r), (2, .r), (3, .r), (4, .r), (5, .r), (6, .r), (7, .r), (8, .x false), (9, .x false), (10, .r), (11, .x true), (12, .x true), (13, .x true)] (by kernel_rfl) ?_
            refine ws_r rfl rfl rfl rfl (rd_move rfl) ?_
            refine ws_r rfl rfl rfl rfl (rd_move rfl) ?_
            refine ws_r rfl rfl rfl rfl (rd_ix (j := 0) rfl rfl Try.underlying26 Try.sizeOf38 (by simp only [cmpP] at h22; omega)) ?_
            refine ws_r rfl rfl rfl rfl (rd_load rfl) ?_
            refine ws_r rfl rfl rfl rfl (rd_move rfl) ?_
            refine ws_r rfl rfl rfl rfl (rd_move rfl) ?_
            refine ws_r rfl rfl rfl rfl (rd_ix (j := 0) rfl rfl Try.underlying26 Try.sizeOf38 (by simp only [cmpP] at h22; omega)) ?_
            refine ws_r rfl rfl rfl rfl (rd_load rfl) ?_
            refine ws_buildSlice rfl rfl rfl rfl ?_
            intro b41 hb41
            refine ws_append rfl rfl rfl rfl rfl hown5 (by simp [idC_size]) (idC_one _) (by simp only [maxLen]; omega) (by omega) (fun _ _ _ h => by first | (cases h; done) | (simp only [List.mem_append, List.mem_cons] at h ⊢; grind) | skip) ?_
            intro v5' ν5' hown5'
            refine ws_r rfl rfl rfl rfl (rd_assign rfl) ?_
            refine ws_late rfl ?_
            refine ws_mapEntry (ek := idK) (en := bK) (a := y) Try.underlying89 hS false zero4 rfl rfl rfl rfl rfl (.inl hb14) (fun _ _ _ h _ => by first | (cases h; done) | (simp only [List.mem_append, List.mem_cons] at h ⊢; grind)) ?_
            intro em1 cm1 stamp hS1 hop1
            refine ws_l rfl rfl rfl rfl (rd_extract rfl) ?_
            refine ws_entryStore (ek := idK) (en := bK) (a := y) (b := true) (K := 38) hS1 hop1 rfl rfl rfl rfl rfl (.inl hb14) (fun _ _ h _ => by first | (cases h; done) | (simp only [List.mem_append, List.mem_cons] at h ⊢; grind)) ?_
            intro em2 hS2
            refine ws_nil ?_
            refine qe_block ?_
            refine qe_then ?_
            refine wc_plain [(0, .x true), (1, .x true), (2, .x true), (3, .x true), (4, .x true), (5, .x true)] (by kernel_rfl) ?_
            refine ws_l rfl rfl rfl rfl (rd_move rfl) ?_
            refine ws_l rfl rfl rfl rfl (rd_move rfl) ?_
            refine ws_l rfl rfl rfl rfl (rd_ix (j := 0) rfl rfl Try.underlying26 Try.sizeOf38 (by simp only [cmpP] at h22; omega)) ?_
            refine ws_l rfl rfl rfl rfl (rd_load rfl) ?_
            refine ws_call rfl rfl rfl rfl rfl (En.go) (fun w hp hn ho => succ_ret p m k es ws c d L W own ν hL hW hok hlen y w (hp.mono SubH.mem) (SubH.nd hn)) (fun _ h => by cases h) (fun hh q h => by first | (cases h; done) | exact hh q h) ?_
            rintro v27 wa wb hpo hon hon2 hp1 ⟨g9, ν9, rfl, hown9, hν9⟩
            refine ⟨ν9, hν9, hown9.nd, fun b hb => .inl (hown9.far b hb), ?_⟩
            replace hown9 := hown9.mono hon.size
            refine ws_l rfl rfl rfl rfl (rd_assign rfl) ?_
            refine ws_nil ?_
            exact qe_loop fun ac2 w2 hs2 => ⟨_, by (rw [List.length_append, List.length_singleton]; omega), path ++ [y], y, v5', ν5', _, ν9, em2, cm1, _, rfl, (Row.app (enc := idL) hown5' rfl (by simp)), (hown9), (hS2), (fun z => by rw [mlook_upd, mlook_upd, hSm]; by_cases hz : z = y <;> simp [hz]), (hpn2), (hps2), (by rw [← hstep]; exact hf), st_sub hs2 _ rfl⟩
        · intro h22
          refine ws_nil ?_
          refine qe_then ?_
          refine wc_false rfl ?_
          refine wc_exit ?_
          refine qe_then_exit ?_
          refine qe_then_exit ?_
          refine qe_block_exit ?_
          refine qe_then ?_
          refine wc_keep [(5, _)] rfl ?_
          refine wc_seq ?_
          refine wc_plain [(0, .x true), (1, .x true)] (by kernel_rfl) ?_
          refine ws_l rfl rfl rfl rfl (rd_move rfl) ?_
          refine ws_l rfl rfl rfl rfl (rd_assign rfl) ?_
          refine ws_nil ?_
          refine qe_then ?_
          refine wc_ret ?_
          refine qe_body _ (.inl rfl) (res1 rfl (RV.tmp rfl)) ?_
          have hnil : succI own cur = [] := List.eq_nil_of_length_eq_zero (by simp only [cmpP] at h22; omega)
          rw [path_end hpn hps hnil] at hf
          subst hf
          obtain ⟨g5, rfl, -⟩ := OwnR.gv hown5
          exact ret_end fun w hp hn ho => ⟨g5, ν5, rfl, hown5, (hp.mono SubH.mem)⟩
  · intro hhas
    have hhas := of_decide_eq_false hhas
    refine ws_l rfl rfl rfl rfl (rd_not rfl) ?_
    refine ws_nil ?_
    refine qe_then ?_
    refine wc_true rfl ?_
    refine wc_seq ?_
    refine wc_plain [(0, .x true)] (by kernel_rfl) ?_
    refine ws_l rfl rfl rfl rfl (rd_assign rfl) ?_
    refine ws_nil ?_
    refine qe_then ?_
    refine wc_keep [(0, _), (3, _), (4, _)] rfl ?_
    refine wc_ret ?_
    refine qe_then_ret ?_
    refine qe_body _ (.inl rfl) (res1 rfl (RV.tmp rfl)) ?_
    exact ret_end fun w hp hn ho => ⟨gnil, [], rfl, by rw [pathI, if_neg hhas]; exact OwnR.nil _ _ _, HpOK.nil w⟩
def lastD (l : List Id) : Id := (l[l.length - 1]?).getD id0
theorem lastD_at {l : List Id} {z : Id} (h : l[l.length - 1]? = some z) : lastD l = z := by rw [lastD, h]; rfl
theorem pathI_len {own : List RR} (hn : (own.map RR.id).Nodup) (id : Id) : (pathI own id).length ≤ own.length := by
  have key : ∀ (n : Nat) (path : List Id) (cur : Id), path.Nodup → (∀ y ∈ path, ∃ x ∈ own, x.id = y) → (pathF own n path cur).length ≤ own.length := fun n => by
    induction n with
    | zero => intro _ _ _ _; simp [pathF]
    | succ n ih =>
      intro path cur hp hs
      simp only [pathF]
      cases hsu : succI own cur with
      | nil => exact path_len hp hs
      | cons y r =>
        simp only []
        by_cases hy : y ∈ path
        · rw [if_pos hy]; simp
        · rw [if_neg hy]
          obtain ⟨_, h1, h2, _⟩ := path_step hp hs hn hsu hy
          exact ih _ _ h1 h2
  unfold pathI
  split
  · rename_i h
    exact key _ _ _ (by simp) (fun y hy => by rw [List.mem_singleton.1 hy]; exact h)
  · simp
set_option maxRecDepth 100000 in
set_option maxHeartbeats 1000000 in
theorem end_ret (p m k : Nat) (es ws : Array MapEntry) (c d : Nat) (L : RMap) (W : WMap) (own : List RR) (ν : Heap) (hL : MapIs idK hrK es c L) (hW : MapIs idK wvK ws d W) (hok : SetOK ν L W own) (hlen : own.length < 8192) (id : Id) (w : World) (hη : HpOK (setC p m k es c ws d ν) w) (hnd : ((setC p m k es c ws d ν).map Prod.fst).Nodup) : Ret Try.prog 25 [ptr p, idK id] w [] (fun v _ => v = .tuple #[idK (lastD (pathI own id)), .bool (decide (0 < (pathI own id).length))]) := by
  refine enter (n := 20) (args := [ptr p, idK id]) [] (setC p m k es c ws d ν) Try.func25 rfl rfl rfl hη hnd ?_
  refine wc_seq ?_
  refine wc_plain [(0, .x true), (1, .x true), (2, .x true)] (by kernel_rfl) ?_
  refine ws_box rfl rfl rfl rfl ?_
  intro b3 hb3
  refine ws_alloc rfl rfl rfl ?_
  intro b4 hb4
  refine ws_l rfl rfl rfl rfl (rd_assign rfl) ?_
  refine ws_nil ?_
  refine qe_then ?_
  refine wc_seq ?_
  refine wc_plain [(0, .x true), (1, .x true), (2, .x true), (3, .x true)] (by kernel_rfl) ?_
  refine ws_l rfl rfl rfl rfl (rd_move rfl) ?_
  refine ws_l rfl rfl rfl rfl (rd_load rfl) ?_
  refine ws_call rfl rfl rfl rfl rfl (En.go) (fun w hp hn ho => path_ret p m k es ws c d L W own ν hL hW hok hlen id w (hp.mono SubH.mem) hnd) (fun _ h => by cases h) (fun hh q h => by first | (cases h; done) | exact hh q h) ?_
  rintro v9 wa wb hpo hon hon2 hp1 ⟨g6, ν6, rfl, hown6, hν6⟩
  refine ⟨ν6, hν6, hown6.nd, fun b hb => .inl (hown6.far b hb), ?_⟩
  replace hown6 := hown6.mono hon.size
  refine ws_l rfl rfl rfl rfl (rd_assign rfl) ?_
  refine ws_nil ?_
  refine qe_then ?_
  refine wc_keep [(4, _), (5, _), (6, _)] rfl ?_
  refine wc_seq ?_
  refine wc_seq ?_
  refine wc_plain [(0, .x true), (1, .x true), (2, .x true)] (by kernel_rfl) ?_
  refine ws_l rfl rfl rfl rfl (rd_move rfl) ?_
  refine ws_l rfl rfl rfl rfl (rd_lenO hown6 rfl Try.underlying26) ?_
  refine ws_lcmp rfl rfl rfl (rfl) (rfl) (rfl) ?_ ?_
  · intro h12
    refine ws_nil ?_
    refine qe_then ?_
    refine wc_true rfl ?_
    refine wc_seq ?_
    refine wc_plain [(0, .x true), (1, .x true), (2, .x true)] (by kernel_rfl) ?_
    refine ws_l rfl rfl rfl rfl (rd_build rfl) ?_
    refine ws_store rfl rfl rfl rfl (by first | exact .inl (by assumption) | exact .inr (by simp)) (fun _ h _ => by first | (cases h; done) | exact List.mem_cons_of_mem _ h | exact List.mem_cons_of_mem _ (List.mem_cons_of_mem _ h) | (simp at h ⊢; simp [h])) ?_
    refine ws_l rfl rfl rfl rfl (rd_assign rfl) ?_
    refine ws_nil ?_
    refine qe_then ?_
    refine wc_ret ?_
    refine qe_then_ret ?_
    refine qe_body _ (.inl rfl) (res2 rfl (RV.cell rfl) (RV.tmp rfl)) ?_
    exact ret_end fun w hp hn ho => (by rw [List.eq_nil_of_length_eq_zero (l := pathI own id) (by simp only [cmpP] at h12; omega)]; rfl)
  · intro h12
    refine ws_nil ?_
    refine qe_then ?_
    refine wc_false rfl ?_
    refine wc_skip ?_
    refine qe_then ?_
    refine wc_seq ?_
    refine wc_plain [(0, .x true), (1, .x true), (2, .x true), (3, .x true), (4, .x true), (5, .x true), (6, .x true), (7, .x true)] (by kernel_rfl) ?_
    refine ws_l rfl rfl rfl rfl (rd_move rfl) ?_
    refine ws_l rfl rfl rfl rfl (rd_move rfl) ?_
    refine ws_l rfl rfl rfl rfl (rd_lenO hown6 rfl Try.underlying26) ?_
    refine ws_l rfl rfl rfl rfl (rd_arith (((pathI own id).length - 1 : Nat) : Int) rfl rfl rfl (by have := pathI_len hok.nd id; simp only [cmpP] at h12; rw [wrap_i64 _ (by omega) (by omega)]; omega)) ?_
    have hpos : 0 < (pathI own id).length := by simp only [cmpP] at h12; omega
    obtain ⟨gA, gn, gc⟩ := g6
    obtain ⟨bq, oq, cq, csq, Eq, frq, hvq, hmq, hcq⟩ := Src.opened hown6.src hpos
    have hmiq : HM bq (.cells csq Eq frq) ν6 := ⟨hmq⟩
    obtain ⟨z, hz⟩ := at_ex (l := pathI own id) (j := (pathI own id).length - 1) (by omega)
    have atz : ReadsAt Try.prog 38 csq (oq + ((pathI own id).length - 1) * 32) (idK z) := ids_src hcq hz
    simp only [Value.slice.injEq] at hvq
    obtain ⟨rfl, rfl, rfl⟩ := hvq
    refine ws_l rfl rfl rfl rfl (rd_index (oq + ((pathI own id).length - 1) * 32) rfl rfl Try.underlying26 Try.sizeOf38 ⟨by omega, by show _ < (((pathI own id).length : Nat) : Int); omega⟩ (by rw [Int.toNat_natCast])) ?_
    refine ws_l rfl rfl rfl rfl (rd_load rfl) ?_
    refine ws_store rfl rfl rfl rfl (by first | exact .inl (by assumption) | exact .inr (by simp)) (fun _ h _ => by first | (cases h; done) | exact List.mem_cons_of_mem _ h | exact List.mem_cons_of_mem _ (List.mem_cons_of_mem _ h) | (simp at h ⊢; simp [h])) ?_
    refine ws_l rfl rfl rfl rfl (rd_assign rfl) ?_
    refine ws_nil ?_
    refine qe_then ?_
    refine wc_keep [(4, _), (5, _)] rfl ?_
    refine wc_ret ?_
    refine qe_body _ (.inl rfl) (res2 rfl (RV.cell rfl) (RV.tmp rfl)) ?_
    exact ret_end fun w hp hn ho => (by rw [decide_eq_true (show 0 < (pathI own id).length by omega), lastD_at hz])

end Go.Proofs.Ytaagmgpfpaanlaa
