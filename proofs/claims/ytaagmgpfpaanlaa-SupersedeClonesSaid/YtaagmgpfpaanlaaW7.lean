/- Walks: where, Ends, Withdrawn. No conditions. -/
import Derived.Test.YtaagmgpfpaanlaaW6
namespace Go.Proofs.Ytaagmgpfpaanlaa
open Go Go.RowKit Go.Sx
set_option linter.unusedSimpArgs false
set_option linter.unusedVariables false

set_option maxRecDepth 100000 in
set_option maxHeartbeats 1000000 in
theorem where_ret (p m k : Nat) (es ws : Array MapEntry) (c d : Nat) (L : RMap) (W : WMap) (own : List RR) (ν : Heap) (hL : MapIs idK hrK es c L) (hW : MapIs idK wvK ws d W) (hok : SetOK ν L W own) (hlen : own.length < 8192) (κ0 : Heap) (fd : Nat) (rc caps : Array Value) (pr : Id → Bool) (hk : IsPred fd rc caps (κ0 ++ setC p m k es c ws d ν) pr) (w : World) (hη : HpOK (κ0 ++ setC p m k es c ws d ν) w) (hnd : ((κ0 ++ setC p m k es c ws d ν).map Prod.fst).Nodup) : Ret Try.prog 40 [ptr p, .func (.func fd) rc caps] w [] (fun v w' => ∃ (g' : GV) (ν' : Heap), v = g'.v ∧ OwnR w.heap.size 38 32 g'.v ν' (whereI own pr).length (idsL (whereI own pr)) ∧ HpOK ν' w') := by
  refine enter (n := 28) (args := [ptr p, .func (.func fd) rc caps]) [] (κ0 ++ setC p m k es c ws d ν) Try.func40 rfl rfl rfl hη hnd ?_
  refine wc_seq ?_
  refine wc_plain [(0, .x true)] (by kernel_rfl) ?_
  refine ws_l rfl rfl rfl rfl (rd_assign rfl) ?_
  refine ws_nil ?_
  refine qe_then ?_
  refine wc_seq ?_
  refine wc_seq ?_
  refine wc_plain [(0, .x true), (1, .x true)] (by kernel_rfl) ?_
  refine ws_l rfl rfl rfl rfl (rd_move rfl) ?_
  refine ws_l rfl rfl rfl rfl (rd_ptr_nil rfl rfl Try.underlying49 rfl) ?_
  refine ws_nil ?_
  refine qe_then ?_
  refine wc_false rfl ?_
  refine wc_skip ?_
  refine qe_then ?_
  refine wc_seq ?_
  refine wc_plain [(0, .x true)] (by kernel_rfl) ?_
  refine ws_l rfl rfl rfl rfl (rd_assign rfl) ?_
  refine ws_nil ?_
  refine qe_then ?_
  refine wc_seq ?_
  refine wc_seq ?_
  refine wc_plain [(0, .x true), (1, .x true), (2, .x true), (3, .x true), (4, .x true)] (by kernel_rfl) ?_
  refine ws_l rfl rfl rfl rfl (rd_move rfl) ?_
  refine ws_l rfl rfl rfl rfl (rd_nil rfl) ?_
  refine ws_l rfl rfl rfl rfl (rd_fieldAddr rfl) ?_
  refine ws_l rfl rfl rfl rfl (rd_load rfl) ?_
  refine ws_range Try.underlying77 rfl rfl rfl rfl ?_
  intro b13 hb13
  refine ws_nil ?_
  refine qe_then ?_
  refine wc_keep [(1, _), (4, _), (5, _), (13, _)] rfl ?_
  refine wc_block ?_
  refine wc_loop (fun mz ac w1 => ∃ (seen : Array Nat) (R : RMap) (xs : List Id) (v5 : Value) (ν5 : Heap), mz = R.length ∧ (IterIs idK hrK es seen R) ∧ (OwnR w.heap.size 38 32 v5 ν5 xs.length (idsL xs)) ∧ (xs.length + R.length ≤ L.length) ∧ ((xs ++ (R.map Prod.fst).filter pr).Perm ((L.map Prod.fst).filter pr)) ∧ St 28 w [] [(1, .func (.func fd) rc caps), (13, ptr b13), (5, v5)] ((b13, .mapIter (some m) c seen c) :: (ν5 ++ (κ0 ++ setC p m k es c ws d ν))) ac w1) _ (fun ac w1 hs => ⟨#[], L, [], .slice none 0 0, [], rfl, (IterIs.start hL), (OwnR.nil _ _ _), (by simp), (by simp), st_sub hs _ rfl⟩) ?_
  rintro _ ac1 wl1 ⟨seen, R, xs, v5, ν5, rfl, hit, hown, hln, hpm, hs1⟩
  refine wc_at hs1 ?_
  refine wc_seq ?_
  refine wc_plain [(0, .x true), (1, .x true)] (by kernel_rfl) ?_
  refine ws_next (ek := idK) (en := hrK) hL hit rfl rfl rfl rfl (Nat.le_refl _) (.inl hb13) ?_ ?_
  · intro hR
    refine ws_l rfl rfl rfl rfl (rd_extract rfl) ?_
    refine ws_nil ?_
    refine qe_then ?_
    refine wc_seq ?_
    refine wc_false rfl ?_
    refine wc_exit ?_
    refine qe_then_exit ?_
    refine qe_then_exit ?_
    refine qe_block_exit ?_
    refine qe_then ?_
    refine wc_seq ?_
    refine wc_plain [(0, .x true), (1, .x true)] (by kernel_rfl) ?_
    refine ws_l rfl rfl rfl rfl (rd_move rfl) ?_
    refine ws_callV ν5 rfl rfl rfl rfl rfl (En.go) (fun w hp hn ho => sort_ret (cb := #[]) (φ := []) swoId En.go (fun y z w2 _ => idcmp_ret y z w2) hown (by have := hok.len; omega) w (hp.mono SubH.mem) (SubH.nd hn)) (fun b hb => .inl (hown.far b hb)) (fun hh q h => by first | (cases h; done) | exact hh q h | skip) ?_
    rintro v26 wa wb hpo hon hon2 hp1 ⟨ν6, ys, hown6, hν6, hbl6, hperm, hpw⟩
    refine ⟨ν6, hν6, hown6.nd, fun b hb => .inr (by rw [← hbl6]; exact hb), ?_⟩
    refine ws_nil ?_
    refine qe_then ?_
    refine wc_keep [(5, _)] rfl ?_
    refine wc_seq ?_
    refine wc_plain [(0, .x true), (1, .x true)] (by kernel_rfl) ?_
    refine ws_l rfl rfl rfl rfl (rd_move rfl) ?_
    refine ws_l rfl rfl rfl rfl (rd_assign rfl) ?_
    refine ws_nil ?_
    refine qe_then ?_
    refine wc_ret ?_
    refine qe_body _ (.inl rfl) (res1 rfl (RV.tmp rfl)) ?_
    have hys : ys = whereI own pr := by
      refine sortI_unique ?_ (hpw.imp fun h => by rw [ltId] at h; exact of_decide_eq_false h)
      rw [← hok.keysEq]
      subst hR
      simp only [List.map_nil, List.filter_nil, List.append_nil] at hpm
      exact hperm.trans hpm
    subst hys
    obtain ⟨g6, rfl, -⟩ := OwnR.gv hown6
    exact ret_end fun w hp hn ho => ⟨g6, ν6, rfl, hown6, (hp.mono SubH.mem)⟩
  · intro R1 pr1 R2 seen' hR hit' hcu
    refine ws_l rfl rfl rfl rfl (rd_extract rfl) ?_
    refine ws_nil ?_
    refine qe_then ?_
    refine wc_seq ?_
    refine wc_true rfl ?_
    refine wc_skip ?_
    refine qe_then ?_
    refine wc_block ?_
    refine wc_seq ?_
    refine wc_plain [(0, .x true), (1, .x true), (2, .x true), (3, .x true)] (by kernel_rfl) ?_
    refine ws_l rfl rfl rfl rfl (rd_entry (ek := idK) (en := hrK) hL hcu rfl) ?_
    refine ws_l rfl rfl rfl rfl (rd_extract rfl) ?_
    refine ws_alloc rfl rfl rfl ?_
    intro b6 hb6
    refine ws_store rfl rfl rfl rfl (by first | exact .inl (by assumption) | exact .inr (by simp)) (fun _ h _ => by first | (cases h; done) | exact List.mem_cons_of_mem _ h | exact List.mem_cons_of_mem _ (List.mem_cons_of_mem _ h) | (simp at h ⊢; simp [h])) ?_
    refine ws_nil ?_
    refine qe_then ?_
    refine wc_seq ?_
    refine wc_plain [(0, .x true), (1, .x true), (2, .x true)] (by kernel_rfl) ?_
    refine ws_l rfl rfl rfl rfl (rd_move rfl) ?_
    refine ws_l rfl rfl rfl rfl (rd_load rfl) ?_
    refine ws_callbR (pr pr1.1) rfl rfl rfl rfl rfl hk.en (fun w hp hn ho => hk.ret pr1.1 w (hp.mono SubH.mem) (SubH.nd hn)) ?_ ?_
    · intro hkp
      refine ws_nil ?_
      refine qe_then ?_
      refine wc_true rfl ?_
      refine wc_plain [(0, .x true), (1, .x true), (2, .x true), (3, .x true), (4, .x true)] (by kernel_rfl) ?_
      refine ws_l rfl rfl rfl rfl (rd_move rfl) ?_
      refine ws_l rfl rfl rfl rfl (rd_load rfl) ?_
      refine ws_buildSlice rfl rfl rfl rfl ?_
      intro b23 hb23
      refine ws_append rfl rfl rfl rfl rfl hown (by simp [idC_size]) (idC_one _) (by have := hok.len; simp only [maxLen]; omega) (by have := hok.len; omega) (fun _ _ _ h => by first | (cases h; done) | (simp only [List.mem_append, List.mem_cons] at h ⊢; grind) | skip) ?_
      intro v5' ν5' hown5'
      refine ws_l rfl rfl rfl rfl (rd_assign rfl) ?_
      refine ws_nil ?_
      refine qe_block ?_
      exact qe_loop fun ac2 w2 hs2 => ⟨_, by subst hR; simp <;> omega, seen', R1 ++ R2, xs ++ [pr1.1], v5', ν5', rfl, (hit'), (Row.app hown5' rfl (by simp)), (by subst hR; simp at hln ⊢; omega), (by subst hR; refine List.Perm.trans ?_ hpm; simp [List.filter_cons, hkp, List.filter_append]; exact List.perm_middle.symm.append_left _), st_sub hs2 _ rfl⟩
    · intro hkp
      refine ws_nil ?_
      refine qe_then ?_
      refine wc_false rfl ?_
      refine wc_skip ?_
      refine qe_block ?_
      exact qe_loop fun ac2 w2 hs2 => ⟨_, by subst hR; simp <;> omega, seen', R1 ++ R2, xs, v5, ν5, rfl, (hit'), (hown), (by subst hR; simp at hln ⊢; omega), (by subst hR; simpa [List.filter_cons, hkp, List.filter_append] using hpm), st_sub hs2 _ rfl⟩
set_option maxRecDepth 100000 in
set_option maxHeartbeats 1000000 in
theorem where_nil (fv : Value) (w : World) : Ret Try.prog 40 [.pointer none, fv] w [] (fun v _ => v = gnil.v) := by
  refine enter (n := 28) (args := [.pointer none, fv]) [] [] Try.func40 rfl rfl rfl (HpOK.nil w) (by simp) ?_
  refine wc_seq ?_
  refine wc_plain [(0, .x true)] (by kernel_rfl) ?_
  refine ws_l rfl rfl rfl rfl (rd_assign rfl) ?_
  refine ws_nil ?_
  refine qe_then ?_
  refine wc_seq ?_
  refine wc_seq ?_
  refine wc_plain [(0, .x true), (1, .x true)] (by kernel_rfl) ?_
  refine ws_l rfl rfl rfl rfl (rd_move rfl) ?_
  refine ws_l rfl rfl rfl rfl (rd_nil_nil rfl rfl Try.underlying49 rfl) ?_
  refine ws_nil ?_
  refine qe_then ?_
  refine wc_true rfl ?_
  refine wc_seq ?_
  refine wc_plain [(0, .x true)] (by kernel_rfl) ?_
  refine ws_l rfl rfl rfl rfl (rd_assign rfl) ?_
  refine ws_nil ?_
  refine qe_then ?_
  refine wc_ret ?_
  refine qe_then_ret ?_
  refine qe_body _ (.inl rfl) (res1 rfl (RV.tmp rfl)) ?_
  exact ret_end fun w hp hn ho => rfl
set_option maxRecDepth 100000 in
set_option maxHeartbeats 1000000 in
theorem ends1_ret (p m k : Nat) (es ws : Array MapEntry) (c d : Nat) (L : RMap) (W : WMap) (own : List RR) (ν : Heap) (hL : MapIs idK hrK es c L) (hW : MapIs idK wvK ws d W) (hok : SetOK ν L W own) (hlen : own.length < 8192) (bp : Nat) (id : Id) (w : World) (hη : HpOK ([(bp, .cells #[ptr p] 49 (0, 0))] ++ setC p m k es c ws d ν) w) (hnd : (([(bp, Obj.cells #[ptr p] 49 (0, 0))] ++ setC p m k es c ws d ν).map Prod.fst).Nodup) : Ret Try.prog 41 [idK id, ptr bp] w [] (fun v _ => v = .bool (!wdB own id)) := by
  refine enter (n := 8) (args := [idK id, ptr bp]) [] ([(bp, .cells #[ptr p] 49 (0, 0))] ++ setC p m k es c ws d ν) Try.func41 rfl rfl rfl hη hnd ?_
  refine wc_seq ?_
  refine wc_plain [(0, .x true), (1, .x true)] (by kernel_rfl) ?_
  refine ws_box rfl rfl rfl rfl ?_
  intro b2 hb2
  refine ws_l rfl rfl rfl rfl (rd_assign rfl) ?_
  refine ws_nil ?_
  refine qe_then ?_
  refine wc_seq ?_
  refine wc_plain [(0, .x true), (1, .x true), (2, .x true), (3, .x true), (4, .x true)] (by kernel_rfl) ?_
  refine ws_l rfl rfl rfl rfl (rd_load rfl) ?_
  refine ws_l rfl rfl rfl rfl (rd_load rfl) ?_
  refine ws_callp rfl rfl rfl rfl rfl (En.go) (fun w hp hn ho => wd_ret p m k es ws c d L W own ν hL hW hok hlen id w (hp.mono SubH.mem) (SubH.nd hn)) ?_
  refine ws_l rfl rfl rfl rfl (rd_not rfl) ?_
  refine ws_l rfl rfl rfl rfl (rd_assign rfl) ?_
  refine ws_nil ?_
  refine qe_then ?_
  refine wc_keep [(3, _)] rfl ?_
  refine wc_ret ?_
  refine qe_body _ (.inl rfl) (res1 rfl (RV.tmp rfl)) ?_
  exact ret_end fun w hp hn ho => rfl
theorem isPred_ends (p m k : Nat) (es ws : Array MapEntry) (c d : Nat) (L : RMap) (W : WMap) (own : List RR) (ν : Heap) (hL : MapIs idK hrK es c L) (hW : MapIs idK wvK ws d W) (hok : SetOK ν L W own) (hlen : own.length < 8192) (bp : Nat) : IsPred 41 #[] #[ptr bp] ([(bp, .cells #[ptr p] 49 (0, 0))] ++ setC p m k es c ws d ν) (fun id => !wdB own id) := ⟨En.go, fun id w hp hn => ends1_ret p m k es ws c d L W own ν hL hW hok hlen bp id w hp hn⟩
theorem isPred_wd (p m k : Nat) (es ws : Array MapEntry) (c d : Nat) (L : RMap) (W : WMap) (own : List RR) (ν : Heap) (hL : MapIs idK hrK es c L) (hW : MapIs idK wvK ws d W) (hok : SetOK ν L W own) (hlen : own.length < 8192) : IsPred 21 #[ptr p] #[] ([] ++ setC p m k es c ws d ν) (wdB own) := ⟨En.go, fun id w hp hn => wd_ret p m k es ws c d L W own ν hL hW hok hlen id w hp hn⟩
def endsI (own : List RR) (pr : Id → Bool) : List Id := if chkE own = 0 then whereI own pr else []
set_option maxRecDepth 100000 in
set_option maxHeartbeats 1000000 in
theorem ends_ret (v : Value) (φ : Heap) (hs : List HR) (hsrc : Src φ v 83 hs.length (hs.flatMap hrL)) (hlen : hs.length < 100) (hgs : ∀ x ∈ hs, GOK φ x.g x.r.grp) (w : World) (hφ : HpOK φ w) (hnd : (φ.map Prod.fst).Nodup) : Ret Try.prog 13 [v] w [] (fun u w' => ∃ (g' : GV) (ν' : Heap), u = .tuple #[g'.v, I (chkE (hs.map HR.r))] ∧ OwnR w.heap.size 38 32 g'.v ν' (endsI (hs.map HR.r) (fun id => !wdB (hs.map HR.r) id)).length (idsL (endsI (hs.map HR.r) (fun id => !wdB (hs.map HR.r) id))) ∧ HpOK ν' w') := by
  refine enter (n := 15) (args := [v]) [] φ Try.func13 rfl rfl rfl hφ hnd ?_
  refine wc_seq ?_
  refine wc_plain [(0, .x true), (1, .x true)] (by kernel_rfl) ?_
  refine ws_l rfl rfl rfl rfl (rd_assign rfl) ?_
  refine ws_l rfl rfl rfl rfl (rd_assign rfl) ?_
  refine ws_nil ?_
  refine qe_then ?_
  refine wc_seq ?_
  refine wc_plain [(0, .x true), (1, .x true), (2, .x true), (3, .x true), (4, .x true), (5, .x true), (6, .x true), (7, .x true)] (by kernel_rfl) ?_
  refine ws_l rfl rfl rfl rfl (rd_move rfl) ?_
  refine ws_call rfl rfl rfl rfl rfl (En.go) (fun w hp hn ho => of_ret v φ hs hsrc hlen hgs w hp hn) (fun _ h => by cases h) (fun hh q h => by first | (cases h; done) | exact hh q h) ?_
  rintro v8 wa wb hpo hon hon2 hp1 ⟨s8, rfl, hsr⟩
  rcases hsr with ⟨hchk, p, m, k, es, c, ws, d, L, W, ν, rfl, hset, hsnd, hsfar, hL, hW, hok⟩ | ⟨hchk, rfl⟩
  · refine ⟨_, hset, hsnd, fun b hb => .inl (hsfar b hb), ?_⟩
    simp only [List.cons_append]
    refine ws_l rfl rfl rfl rfl (rd_move rfl) ?_
    refine ws_l rfl rfl rfl rfl (rd_extract rfl) ?_
    refine ws_l rfl rfl rfl rfl (rd_extract rfl) ?_
    refine ws_alloc rfl rfl rfl ?_
    intro b4 hb4
    refine ws_store rfl rfl rfl rfl (by first | exact .inl (by assumption) | exact .inr (by simp)) (fun _ h _ => by first | (cases h; done) | exact List.mem_cons_of_mem _ h | exact List.mem_cons_of_mem _ (List.mem_cons_of_mem _ h) | (simp at h ⊢; simp [h])) ?_
    refine ws_l rfl rfl rfl rfl (rd_assign rfl) ?_
    refine ws_nil ?_
    refine qe_then ?_
    refine wc_keep [(2, _), (3, _), (4, _), (5, _)] rfl ?_
    refine wc_seq ?_
    refine wc_plain [(0, .x true), (1, .x true), (2, .x true), (3, .x true), (4, .x true), (5, .x true)] (by kernel_rfl) ?_
    refine ws_l rfl rfl rfl rfl (rd_load rfl) ?_
    refine ws_l rfl rfl rfl rfl (rd_mkfunc rfl rfl) ?_
    refine ws_call rfl rfl rfl rfl rfl (En.go) (fun w hp hn ho => where_ret p m k es ws c d L W (hs.map HR.r) (ν ++ φ) hL hW hok (by simp; omega) [(b4, .cells #[ptr p] 49 (0, 0))] 41 #[] #[ptr b4] (fun id => !wdB (hs.map HR.r) id) (isPred_ends p m k es ws c d L W (hs.map HR.r) (ν ++ φ) hL hW hok (by simp; omega) b4) w (hp.mono SubH.mem) (SubH.nd hn)) (fun _ h => by cases h) (fun hh q h => by first | (cases h; done) | exact hh q h) ?_
    rintro v13 wa wb hpo hon hon2 hp1 ⟨g9, ν9, rfl, hown9, hν9⟩
    refine ⟨ν9, hν9, hown9.nd, fun b hb => .inl (hown9.far b hb), ?_⟩
    replace hown9 := hown9.mono hon.size
    refine ws_l rfl rfl rfl rfl (rd_move rfl) ?_
    refine ws_l rfl rfl rfl rfl (rd_assign rfl) ?_
    refine ws_l rfl rfl rfl rfl (rd_assign rfl) ?_
    refine ws_nil ?_
    refine qe_then ?_
    refine wc_keep [(2, _), (3, _)] rfl ?_
    refine wc_ret ?_
    refine qe_body _ (.inl rfl) (res2 rfl (RV.tmp rfl) (RV.tmp rfl)) ?_
    exact ret_end fun w hp hn ho => ⟨g9, ν9, rfl, by rw [endsI, if_pos hchk]; exact hown9, (hp.mono SubH.mem)⟩
  · refine ⟨[], HpOK.nil _, by simp, by simp, ?_⟩
    refine ws_l rfl rfl rfl rfl (rd_move rfl) ?_
    refine ws_l rfl rfl rfl rfl (rd_extract rfl) ?_
    refine ws_l rfl rfl rfl rfl (rd_extract rfl) ?_
    refine ws_alloc rfl rfl rfl ?_
    intro b4 hb4
    refine ws_store rfl rfl rfl rfl (by first | exact .inl (by assumption) | exact .inr (by simp)) (fun _ h _ => by first | (cases h; done) | exact List.mem_cons_of_mem _ h | exact List.mem_cons_of_mem _ (List.mem_cons_of_mem _ h) | (simp at h ⊢; simp [h])) ?_
    refine ws_l rfl rfl rfl rfl (rd_assign rfl) ?_
    refine ws_nil ?_
    refine qe_then ?_
    refine wc_keep [(2, _), (3, _), (4, _), (5, _)] rfl ?_
    refine wc_seq ?_
    refine wc_plain [(0, .x true), (1, .x true), (2, .x true), (3, .x true), (4, .x true), (5, .x true)] (by kernel_rfl) ?_
    refine ws_l rfl rfl rfl rfl (rd_load rfl) ?_
    refine ws_l rfl rfl rfl rfl (rd_mkfunc rfl rfl) ?_
    refine ws_callp rfl rfl rfl rfl rfl (En.go) (fun w hp hn ho => where_nil _ w) ?_
    refine ws_l rfl rfl rfl rfl (rd_move rfl) ?_
    refine ws_l rfl rfl rfl rfl (rd_assign rfl) ?_
    refine ws_l rfl rfl rfl rfl (rd_assign rfl) ?_
    refine ws_nil ?_
    refine qe_then ?_
    refine wc_keep [(2, _), (3, _)] rfl ?_
    refine wc_ret ?_
    refine qe_body _ (.inl rfl) (res2 rfl (RV.tmp rfl) (RV.tmp rfl)) ?_
    exact ret_end fun w hp hn ho => ⟨gnil, [], rfl, by rw [endsI, if_neg hchk]; exact OwnR.nil _ _ _, HpOK.nil w⟩
set_option maxRecDepth 100000 in
set_option maxHeartbeats 1000000 in
theorem withdrawn_ret (v : Value) (φ : Heap) (hs : List HR) (hsrc : Src φ v 83 hs.length (hs.flatMap hrL)) (hlen : hs.length < 100) (hgs : ∀ x ∈ hs, GOK φ x.g x.r.grp) (w : World) (hφ : HpOK φ w) (hnd : (φ.map Prod.fst).Nodup) : Ret Try.prog 14 [v] w [] (fun u w' => ∃ (g' : GV) (ν' : Heap), u = .tuple #[g'.v, I (chkE (hs.map HR.r))] ∧ OwnR w.heap.size 38 32 g'.v ν' (endsI (hs.map HR.r) (wdB (hs.map HR.r))).length (idsL (endsI (hs.map HR.r) (wdB (hs.map HR.r)))) ∧ HpOK ν' w') := by
  refine enter (n := 16) (args := [v]) [] φ Try.func14 rfl rfl rfl hφ hnd ?_
  refine wc_seq ?_
  refine wc_plain [(0, .x true), (1, .x true)] (by kernel_rfl) ?_
  refine ws_l rfl rfl rfl rfl (rd_assign rfl) ?_
  refine ws_l rfl rfl rfl rfl (rd_assign rfl) ?_
  refine ws_nil ?_
  refine qe_then ?_
  refine wc_seq ?_
  refine wc_plain [(0, .x true), (1, .x true), (2, .x true), (3, .x true), (4, .x true), (5, .x true), (6, .x true)] (by kernel_rfl) ?_
  refine ws_l rfl rfl rfl rfl (rd_move rfl) ?_
  refine ws_call rfl rfl rfl rfl rfl (En.go) (fun w hp hn ho => of_ret v φ hs hsrc hlen hgs w hp hn) (fun _ h => by cases h) (fun hh q h => by first | (cases h; done) | exact hh q h) ?_
  rintro v8 wa wb hpo hon hon2 hp1 ⟨s8, rfl, hsr⟩
  rcases hsr with ⟨hchk, p, m, k, es, c, ws, d, L, W, ν, rfl, hset, hsnd, hsfar, hL, hW, hok⟩ | ⟨hchk, rfl⟩
  · refine ⟨_, hset, hsnd, fun b hb => .inl (hsfar b hb), ?_⟩
    simp only [List.cons_append]
    refine ws_l rfl rfl rfl rfl (rd_move rfl) ?_
    refine ws_l rfl rfl rfl rfl (rd_extract rfl) ?_
    refine ws_l rfl rfl rfl rfl (rd_extract rfl) ?_
    refine ws_l rfl rfl rfl rfl (rd_assign rfl) ?_
    refine ws_l rfl rfl rfl rfl (rd_assign rfl) ?_
    refine ws_nil ?_
    refine qe_then ?_
    refine wc_keep [(2, _), (3, _), (4, _), (5, _)] rfl ?_
    refine wc_seq ?_
    refine wc_plain [(0, .x true), (1, .x true), (2, .x true), (3, .x true), (4, .x true), (5, .x true), (6, .x true)] (by kernel_rfl) ?_
    refine ws_l rfl rfl rfl rfl (rd_move rfl) ?_
    refine ws_l rfl rfl rfl rfl (rd_move rfl) ?_
    refine ws_l rfl rfl rfl rfl (rd_mkfunc rfl rfl) ?_
    refine ws_call rfl rfl rfl rfl rfl (En.go) (fun w hp hn ho => where_ret p m k es ws c d L W (hs.map HR.r) (ν ++ φ) hL hW hok (by simp; omega) [] 21 #[ptr p] #[] (wdB (hs.map HR.r)) (isPred_wd p m k es ws c d L W (hs.map HR.r) (ν ++ φ) hL hW hok (by simp; omega)) w (hp.mono SubH.mem) (SubH.nd hn)) (fun _ h => by cases h) (fun hh q h => by first | (cases h; done) | exact hh q h) ?_
    rintro v14 wa wb hpo hon hon2 hp1 ⟨g9, ν9, rfl, hown9, hν9⟩
    refine ⟨ν9, hν9, hown9.nd, fun b hb => .inl (hown9.far b hb), ?_⟩
    replace hown9 := hown9.mono hon.size
    refine ws_l rfl rfl rfl rfl (rd_move rfl) ?_
    refine ws_l rfl rfl rfl rfl (rd_assign rfl) ?_
    refine ws_l rfl rfl rfl rfl (rd_assign rfl) ?_
    refine ws_nil ?_
    refine qe_then ?_
    refine wc_keep [(2, _), (3, _)] rfl ?_
    refine wc_ret ?_
    refine qe_body _ (.inl rfl) (res2 rfl (RV.tmp rfl) (RV.tmp rfl)) ?_
    exact ret_end fun w hp hn ho => ⟨g9, ν9, rfl, by rw [endsI, if_pos hchk]; exact hown9, (hp.mono SubH.mem)⟩
  · refine ⟨[], HpOK.nil _, by simp, by simp, ?_⟩
    refine ws_l rfl rfl rfl rfl (rd_move rfl) ?_
    refine ws_l rfl rfl rfl rfl (rd_extract rfl) ?_
    refine ws_l rfl rfl rfl rfl (rd_extract rfl) ?_
    refine ws_l rfl rfl rfl rfl (rd_assign rfl) ?_
    refine ws_l rfl rfl rfl rfl (rd_assign rfl) ?_
    refine ws_nil ?_
    refine qe_then ?_
    refine wc_keep [(2, _), (3, _), (4, _), (5, _)] rfl ?_
    refine wc_seq ?_
    refine wc_plain [(0, .x true), (1, .x true), (2, .x true), (3, .x true), (4, .x true), (5, .x true), (6, .x true)] (by kernel_rfl) ?_
    refine ws_l rfl rfl rfl rfl (rd_move rfl) ?_
    refine ws_l rfl rfl rfl rfl (rd_move rfl) ?_
    refine ws_l rfl rfl rfl rfl (rd_mkfunc rfl rfl) ?_
    refine ws_callp rfl rfl rfl rfl rfl (En.go) (fun w hp hn ho => where_nil _ w) ?_
    refine ws_l rfl rfl rfl rfl (rd_move rfl) ?_
    refine ws_l rfl rfl rfl rfl (rd_assign rfl) ?_
    refine ws_l rfl rfl rfl rfl (rd_assign rfl) ?_
    refine ws_nil ?_
    refine qe_then ?_
    refine wc_keep [(2, _), (3, _)] rfl ?_
    refine wc_ret ?_
    refine qe_body _ (.inl rfl) (res2 rfl (RV.tmp rfl) (RV.tmp rfl)) ?_
    exact ret_end fun w hp hn ho => ⟨gnil, [], rfl, by rw [endsI, if_neg hchk]; exact OwnR.nil _ _ _, HpOK.nil w⟩

end Go.Proofs.Ytaagmgpfpaanlaa
