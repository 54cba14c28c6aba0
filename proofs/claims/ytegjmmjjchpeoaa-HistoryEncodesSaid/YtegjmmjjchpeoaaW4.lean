/- Walk: the sorted entries of a history. No conditions. -/
import Derived.Test.YtegjmmjjchpeoaaW3
import Derived.Test.YtegjmmjjchpeoaaSort
namespace Go.Proofs.Ytegjmmjjchpeoaa
open Go Go.RowKit Go.Sx
set_option linter.unusedSimpArgs false
set_option linter.unusedVariables false

theorem sort_nil (fv : Value) (w : World) : Ret Try.prog 64 [.slice none 0 0, fv] w [] (fun v _ => v = .tuple #[]) :=
  Calls.mono (Go.Proofs.AnyF.slices_SortFunc_none (P := Try.prog) (ρ := Go.Proofs.Try.sortL_ren) { Go.Proofs.Try.sortL with } none 0 fv w) fun e w' ⟨he, hw⟩ => ⟨_, he, by rw [hw]; exact Only.refl _ _, rfl⟩
theorem sort_ret {fc : Nat} {cf : Ent → Ent → Int} (h : IsCmp fc cf) (b cap : Nat) (xs : List Ent) (cur : Array Value) (w : World) (hη : HpOK [(b, .cells cur 29 (0, 0))] w) (hcur : cur.toList.take (xs.length * 36) = xs.flatMap entL) (hsz : xs.length < 4611686018427387904) :
    Ret Try.prog 64 [.slice (some ⟨b, 0, none⟩) xs.length cap, .func (.func fc) #[] #[]] w [b] (fun _ w' => ∃ (cur' : Array Value) (ys : List Ent), w'.heap[b]? = some (.cells cur' 29 (0, 0)) ∧ cur'.size = cur.size ∧ cur'.toList.take (ys.length * 36) = ys.flatMap entL ∧ ys.Perm xs ∧ ys.Pairwise (fun x y => Go.Proofs.ltOf cf y x = false)) :=
  sort_calls Go.Proofs.Try.sortL 36 Try.isAgg29 Try.sizeOf29 entL entL_len entL_one cf h.swo fc h.en (fun x y w => by simpa using h.ret x y w) b cap xs cur 29 w (hη _ _ (by simp)) hcur hsz
set_option maxRecDepth 100000 in
set_option maxHeartbeats 1000000 in
theorem sorted_ret {fk fc : Nat} {caps : Array Value} {κ : Heap} {keep : Ent → Bool} {cf : Ent → Ent → Int} (hk : IsKeep fk caps κ keep) (hc : IsCmp fc cf) (p m : Nat) (cut : Int) (es : Array MapEntry) (clock : Nat) (L : HMap) (hL : MapIs idK entK es clock L) (hlen : L.length < 1048576) (w : World) (hη : HpOK (histC p m cut es clock κ) w) (hnd : ((histC p m cut es clock κ).map Prod.fst).Nodup) : Ret Try.prog 47 [ptr p, .func (.func fk) #[] caps, .func (.func fc) #[] #[]] w [] (fun v w' => ∃ (u : Value) (ν : Heap) (ys : List Ent), v = u ∧ OwnR w.heap.size 29 36 u ν ys.length (ys.flatMap entL) ∧ HpOK ν w' ∧ ys.Perm ((L.map Prod.snd).filter keep) ∧ ys.Pairwise (fun x y => Go.Proofs.ltOf cf y x = false)) := by
  refine enter (n := 32) (args := [ptr p, .func (.func fk) #[] caps, .func (.func fc) #[] #[]]) [] (histC p m cut es clock κ) Try.func47 rfl rfl rfl hη hnd ?_
  refine wc_seq ?_
  refine wc_plain [(0, .x true)] (by kernel_rfl) ?_
  refine ws_l rfl rfl rfl rfl (rd_assign rfl) ?_
  refine ws_nil ?_
  refine qe_then ?_
  refine wc_seq ?_
  refine wc_seq ?_
  refine wc_plain [(0, .x true), (1, .x true)] (by kernel_rfl) ?_
  refine ws_l rfl rfl rfl rfl (rd_move rfl) ?_
  refine ws_l rfl rfl rfl rfl (rd_ptr_nil rfl rfl Try.underlying35 rfl) ?_
  refine ws_nil ?_
  refine qe_then ?_
  refine wc_false rfl ?_
  refine wc_skip ?_
  refine qe_then ?_
  refine wc_seq ?_
  refine wc_plain [(0, .x true)] (by kernel_rfl) ?_
  refine ws_l rfl rfl rfl rfl (rd_assign rfl) ?_
  refine ws_nil ?_
  refine qe_then ?_
  refine wc_seq ?_
  refine wc_seq ?_
  refine wc_plain [(0, .x true), (1, .x true), (2, .x true), (3, .x true), (4, .x true)] (by kernel_rfl) ?_
  refine ws_l rfl rfl rfl rfl (rd_move rfl) ?_
  refine ws_l rfl rfl rfl rfl (rd_nil rfl) ?_
  refine ws_l rfl rfl rfl rfl (rd_fieldAddr rfl) ?_
  refine ws_l rfl rfl rfl rfl (rd_load rfl) ?_
  refine ws_range Try.underlying84 rfl rfl rfl rfl ?_
  intro b16 hb16
  refine ws_nil ?_
  refine qe_then ?_
  refine wc_keep [(1, _), (2, _), (6, _), (7, _), (16, _)] rfl ?_
  refine wc_block ?_
  refine wc_loop (fun mz ac w1 => ∃ (seen : Array Nat) (R : HMap) (xs : List Ent) (v7 : Value) (ν7 : Heap), mz = R.length ∧ (IterIs idK entK es seen R) ∧ (OwnR w.heap.size 29 36 v7 ν7 xs.length (xs.flatMap entL)) ∧ (xs.length + R.length ≤ L.length) ∧ ((xs ++ (R.map Prod.snd).filter keep).Perm ((L.map Prod.snd).filter keep)) ∧ St 32 w [] [(1, .func (.func fk) #[] caps), (2, .func (.func fc) #[] #[]), (16, ptr b16), (7, v7)] ((b16, .mapIter (some m) clock seen clock) :: (ν7 ++ (histC p m cut es clock κ))) ac w1) _ (fun ac w1 hs => ⟨#[], L, [], .slice none 0 0, [], rfl, (IterIs.start hL), (OwnR.nil _ _ _), (by simp), (by simp), st_sub hs _ rfl⟩) ?_
  rintro _ ac1 wl1 ⟨seen, R, xs, v7, ν7, rfl, hit, hown, hln, hpm, hs1⟩
  refine wc_at hs1 ?_
  refine wc_seq ?_
  refine wc_plain [(0, .x true), (1, .x true)] (by kernel_rfl) ?_
  refine ws_next (ek := idK) (en := entK) hL hit rfl rfl rfl rfl (Nat.le_refl _) (.inl hb16) ?_ ?_
  · intro hR
    refine ws_l rfl rfl rfl rfl (rd_extract rfl) ?_
    refine ws_nil ?_
    refine qe_then ?_
    refine wc_seq ?_
    refine wc_false rfl ?_
    refine wc_exit ?_
    refine qe_then_exit ?_
    refine qe_then_exit ?_
    refine qe_block_exit ?_
    refine qe_then ?_
    refine wc_seq ?_
    refine wc_plain [(0, .x true), (1, .x true), (2, .x true)] (by kernel_rfl) ?_
    refine ws_l rfl rfl rfl rfl (rd_move rfl) ?_
    refine ws_l rfl rfl rfl rfl (rd_move rfl) ?_
    rcases hown with ⟨rfl, rfl, h0, h00⟩ | ⟨g7, cap7, cur7, rfl, rfl, hg7, hcap7, hml7, hsz7, htk7, hxl7⟩
    · refine ws_callp rfl rfl rfl rfl rfl (En.go) (fun w hp hn ho => sort_nil _ w) ?_
      refine ws_nil ?_
      refine qe_then ?_
      refine wc_keep [(7, _)] rfl ?_
      refine wc_seq ?_
      refine wc_plain [(0, .x true), (1, .x true)] (by kernel_rfl) ?_
      refine ws_l rfl rfl rfl rfl (rd_move rfl) ?_
      refine ws_l rfl rfl rfl rfl (rd_assign rfl) ?_
      refine ws_nil ?_
      refine qe_then ?_
      refine wc_ret ?_
      refine qe_body _ (.inl rfl) (res1 rfl (RV.tmp rfl)) ?_
      exact ret_end fun w hp hn ho => ⟨_, [], [], rfl, OwnR.nil _ _ _, HpOK.nil w, by subst hR; simp only [List.map_nil, List.filter_nil, List.append_nil] at hpm; rw [List.eq_nil_of_length_eq_zero h0] at hpm; exact hpm, List.Pairwise.nil⟩
    · refine ws_call (S' := [g7]) (Φ := fun _ _ w' => ∃ (cur' : Array Value) (ys : List Ent), w'.heap[g7]? = some (.cells cur' 29 (0, 0)) ∧ cur'.size = cur7.size ∧ cur'.toList.take (ys.length * 36) = ys.flatMap entL ∧ ys.Perm xs ∧ ys.Pairwise (fun x y => Go.Proofs.ltOf cf y x = false)) rfl rfl rfl rfl rfl (En.go) (fun w hp hn ho => sort_ret hc g7 cap7 xs cur7 w (hp.mono (by simp)) htk7 (by omega)) (fun b hb => .inl (by simp at hb; subst hb; exact hg7)) (fun _ _ h => by first | (cases h; done) | skip) ?_
      rintro v30 w1' w2' - - - - ⟨cur', ys, hcb, hcs, hct, hyp, hypw⟩
      refine ⟨[(g7, .cells cur' 29 (0, 0))], fun b o hm => by simp at hm; obtain ⟨rfl, rfl⟩ := hm; exact hcb, by simp, by simp, ?_⟩
      refine ws_nil ?_
      refine qe_then ?_
      refine wc_keep [(7, _)] rfl ?_
      refine wc_seq ?_
      refine wc_plain [(0, .x true), (1, .x true)] (by kernel_rfl) ?_
      refine ws_l rfl rfl rfl rfl (rd_move rfl) ?_
      refine ws_l rfl rfl rfl rfl (rd_assign rfl) ?_
      refine ws_nil ?_
      refine qe_then ?_
      refine wc_ret ?_
      refine qe_body _ (.inl rfl) (res1 rfl (RV.tmp rfl)) ?_
      exact ret_end fun w hp hn ho => ⟨_, [(g7, .cells cur' 29 (0, 0))], ys, rfl, .inr ⟨g7, cap7, cur', by rw [hyp.length_eq], rfl, hg7, by rw [hyp.length_eq]; exact hcap7, hml7, by rw [hcs]; exact hsz7, hct, flat_len entL_len ys⟩, hp.mono (by simp), by subst hR; simp only [List.map_nil, List.filter_nil, List.append_nil] at hpm; exact hyp.trans hpm, hypw⟩
  · intro R1 pr R2 seen' hR hit' hcu
    refine ws_l rfl rfl rfl rfl (rd_extract rfl) ?_
    refine ws_nil ?_
    refine qe_then ?_
    refine wc_seq ?_
    refine wc_true rfl ?_
    refine wc_skip ?_
    refine qe_then ?_
    refine wc_block ?_
    refine wc_seq ?_
    refine wc_plain [(0, .x true), (1, .x true), (2, .x true), (3, .x true)] (by kernel_rfl) ?_
    refine ws_l rfl rfl rfl rfl (rd_entry (ek := idK) (en := entK) hL hcu rfl) ?_
    refine ws_l rfl rfl rfl rfl (rd_extract rfl) ?_
    refine ws_alloc rfl rfl rfl ?_
    intro b9 hb9
    refine ws_store rfl rfl rfl rfl (by first | exact .inl (by assumption) | exact .inr (by simp)) (fun _ h _ => by first | (cases h; done) | exact List.mem_cons_of_mem _ h | exact List.mem_cons_of_mem _ (List.mem_cons_of_mem _ h) | (simp at h ⊢; simp [h])) ?_
    refine ws_nil ?_
    refine qe_then ?_
    refine wc_seq ?_
    refine wc_plain [(0, .x true), (1, .x true), (2, .x true)] (by kernel_rfl) ?_
    refine ws_l rfl rfl rfl rfl (rd_move rfl) ?_
    refine ws_l rfl rfl rfl rfl (rd_load rfl) ?_
    refine ws_callb (keep pr.2) rfl rfl rfl rfl rfl hk.en (fun w hp hn ho => hk.ret pr.2 w (hp.mono (by intro q hq; simp [hq]))) ?_ ?_
    · intro hkp
      refine ws_nil ?_
      refine qe_then ?_
      refine wc_true rfl ?_
      refine wc_plain [(0, .x true), (1, .x true), (2, .x true), (3, .x true), (4, .x true)] (by kernel_rfl) ?_
      refine ws_l rfl rfl rfl rfl (rd_move rfl) ?_
      refine ws_l rfl rfl rfl rfl (rd_load rfl) ?_
      refine ws_buildSlice rfl rfl rfl rfl ?_
      intro b26 hb26
      refine ws_append rfl rfl rfl rfl rfl hown (by simp [entC_size]) (entC_one _) (by simp only [maxLen]; omega) (by omega) (fun _ _ _ h => by first | (cases h; done) | skip) ?_
      intro v7' ν7' hown7'
      refine ws_l rfl rfl rfl rfl (rd_assign rfl) ?_
      refine ws_nil ?_
      refine qe_block ?_
      exact qe_loop fun ac2 w2 hs2 => ⟨_, by subst hR; simp <;> omega, seen', R1 ++ R2, xs ++ [pr.2], v7', ν7', rfl, (hit'), (Row.app hown7' rfl (by simp)), (by subst hR; simp at hln ⊢; omega), (by subst hR; refine List.Perm.trans ?_ hpm; simp [List.filter_cons, hkp, List.filter_append]; exact List.perm_middle.symm.append_left _), st_sub hs2 _ rfl⟩
    · intro hkp
      refine ws_nil ?_
      refine qe_then ?_
      refine wc_false rfl ?_
      refine wc_skip ?_
      refine qe_block ?_
      exact qe_loop fun ac2 w2 hs2 => ⟨_, by subst hR; simp <;> omega, seen', R1 ++ R2, xs, v7, ν7, rfl, (hit'), (hown), (by subst hR; simp at hln ⊢; omega), (by subst hR; simpa [List.filter_cons, hkp, List.filter_append] using hpm), st_sub hs2 _ rfl⟩

end Go.Proofs.Ytegjmmjjchpeoaa
