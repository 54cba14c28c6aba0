/- Walks: the iteration over a history, and the entries of one. No conditions. -/
import Derived.Test.YtegjmmjjchpeoaaW10
import Derived.Test.YtegjmmjjchpeoaaYx
namespace Go.Proofs.Ytegjmmjjchpeoaa
open Go Go.RowKit Go.Sx
set_option linter.unusedSimpArgs false
set_option linter.unusedVariables false

set_option maxRecDepth 100000 in
set_option maxHeartbeats 1000000 in
theorem all1_iter (hv : Value) (xs : List Ent) (hlen : xs.length < 1048576) (c : Nat) (need : Heap → Prop) (hc : ∀ ζ, need ζ → (c, Obj.cells #[hv] 35 (0, 0)) ∈ ζ)
    (hs : ∀ (ζ : Heap) w, need ζ → HpOK ζ w → (ζ.map Prod.fst).Nodup → Ret Try.prog 47 [hv, .func (.func 51) #[] #[], .func (.func 49) #[] #[]] w [] (fun v w' => ∃ ν : Heap, OwnR w.heap.size 29 36 v ν xs.length (xs.flatMap entL) ∧ HpOK ν w')) :
    Iter Try.prog 50 [ptr c] entK xs (fun ν φ => need (ν ++ φ)) := by
  intro lp J X ν φ w hY hJ hp hn hneed
  have hmc : HM c (.cells #[hv] 35 (0, 0)) (ν ++ φ) := ⟨hc _ hneed⟩
  refine enter (n := 17) (args := [.func (.yield lp) #[] #[], ptr c]) (ν.map Prod.fst) (ν ++ φ) Try.func50 rfl rfl rfl hp hn ?_
  refine wc_seq ?_
  refine wc_plain [(0, .x true), (1, .x true), (2, .x true), (3, .x true)] (by kernel_rfl) ?_
  refine ws_l rfl rfl rfl rfl (rd_load rfl) ?_
  refine ws_call (S' := []) (Φ := fun w v w' => ∃ ν : Heap, OwnR w.heap.size 29 36 v ν xs.length (xs.flatMap entL) ∧ HpOK ν w') rfl rfl rfl rfl rfl (En.go) (fun w hp hn ho => hs _ w hneed hp hn) (fun _ h => by cases h) (fun _ _ h => by cases h) ?_
  rintro v6 w1 w2 - hon - - ⟨ν6, hown6, hν6⟩
  refine ⟨ν6, hν6, hown6.nd, fun b hb => .inl (hown6.far b hb), ?_⟩
  replace hown6 := hown6.mono hon.size
  refine ws_l rfl rfl rfl rfl (rd_lenO hown6 rfl Try.underlying54) ?_
  refine ws_l rfl rfl rfl rfl (rd_move rfl) ?_
  refine ws_nil ?_
  refine qe_then ?_
  refine wc_block ?_
  refine wc_loop (fun mz ac w1 => ∃ (j : Nat) (νj : Heap), mz = xs.length - j ∧ (j ≤ xs.length) ∧ (J (xs.take j) νj) ∧ (∀ b ∈ νj.map Prod.fst, w.heap.size ≤ b ∨ b ∈ ν.map Prod.fst) ∧ St 17 w (ν.map Prod.fst) [(0, .func (.yield lp) #[] #[]), (6, v6), (7, I xs.length), (8, I j)] (νj ++ (ν6 ++ φ)) ac w1) _ (fun ac w1 hs => ⟨0, ν, rfl, (by omega), (by simpa using hJ), (fun b hb => .inr hb), st_sub hs _ rfl⟩) ?_
  rintro _ ac1 wl1 ⟨j, νj, rfl, hj, hJj, hfj, hs1⟩
  refine wc_at hs1 ?_
  refine wc_seq ?_
  refine wc_plain [(0, .x true)] (by kernel_rfl) ?_
  refine ws_lcmp rfl rfl rfl (rfl) (rfl) (rfl) ?_ ?_
  · intro h9
    refine ws_nil ?_
    refine qe_then ?_
    refine wc_seq ?_
    refine wc_true rfl ?_
    refine wc_skip ?_
    refine qe_then ?_
    refine wc_seq ?_
    refine wc_block ?_
    refine wc_seq ?_
    refine wc_plain [(0, .x true), (1, .x true), (2, .x true), (3, .x true)] (by kernel_rfl) ?_
    obtain ⟨gs, caps, curs, rfl, rfl, hgs, hcaps, hcurs⟩ := OwnR.opened hown6 (by omega)
    obtain ⟨x, hx⟩ := at_ex (l := xs) (j := j) (by omega)
    have atx := at_row hcurs hx
    refine ws_l rfl rfl rfl rfl (rd_ix rfl rfl Try.underlying54 Try.sizeOf29 (by omega)) ?_
    refine ws_l rfl rfl rfl rfl (rd_load rfl) ?_
    refine ws_alloc rfl rfl rfl ?_
    intro b4 hb4
    refine ws_store rfl rfl rfl rfl (by first | exact .inl (by assumption) | exact .inr (by simp)) (fun _ h _ => by first | (cases h; done) | exact List.mem_cons_of_mem _ h | exact List.mem_cons_of_mem _ (List.mem_cons_of_mem _ h) | (simp at h ⊢; simp [h])) ?_
    refine ws_nil ?_
    refine qe_then ?_
    refine wc_seq ?_
    refine wc_plain [(0, .x true), (1, .x true), (2, .x true), (3, .x true)] (by kernel_rfl) ?_
    refine ws_l rfl rfl rfl rfl (rd_move rfl) ?_
    refine ws_l rfl rfl rfl rfl (rd_load rfl) ?_
    refine ws_yield hY (split_at hx) hJj rfl rfl rfl rfl rfl hfj (fun _ _ h => by cases h) ?_ ?_
    · intro ν2 hJ2 hf2
      refine ws_l rfl rfl rfl rfl (rd_not rfl) ?_
      refine ws_nil ?_
      refine qe_then ?_
      refine wc_false rfl ?_
      refine wc_skip ?_
      refine qe_block ?_
      refine qe_then ?_
      refine wc_plain [(0, .x true), (1, .x true)] (by kernel_rfl) ?_
      refine ws_l rfl rfl rfl rfl (rd_arith (((j + 1 : Nat) : Int)) rfl rfl rfl (by rw [wrap_i64 _ (by omega) (by omega)]; omega)) ?_
      refine ws_l rfl rfl rfl rfl (rd_move rfl) ?_
      refine ws_nil ?_
      exact qe_loop fun ac2 w2 hs2 => ⟨_, by omega, j + 1, ν2, rfl, (by omega), (by rw [take_at hx]; exact hJ2), (hf2), st_sub hs2 _ rfl⟩
    · intro ν2 hJ2 hf2
      refine ws_l rfl rfl rfl rfl (rd_not rfl) ?_
      refine ws_nil ?_
      refine qe_then ?_
      refine wc_true rfl ?_
      refine wc_ret ?_
      refine qe_block_ret ?_
      refine qe_then_ret ?_
      refine qe_then_ret ?_
      refine qe_block_ret ?_
      refine qe_body _ (.inl rfl) (res0 rfl) ?_
      exact ret_end fun w hp hn ho => ⟨ν2, hp.mono (fun _ h => List.mem_append_left _ h), hn.sublist (List.Sublist.map _ (List.sublist_append_left _ _)), hf2, .inr ⟨xs.take (j + 1), xs.drop (j + 1), (List.take_append_drop _ _).symm, by rw [take_at hx]; exact hJ2⟩⟩
  · intro h9
    refine ws_nil ?_
    refine qe_then ?_
    refine wc_seq ?_
    refine wc_false rfl ?_
    refine wc_exit ?_
    refine qe_then_exit ?_
    refine qe_then_exit ?_
    refine qe_block_exit ?_
    refine qe_body _ (.inr rfl) (res0 rfl) ?_
    exact ret_end fun w hp hn ho => ⟨νj, hp.mono (fun _ h => List.mem_append_left _ h), hn.sublist (List.Sublist.map _ (List.sublist_append_left _ _)), hfj, .inl (by rw [List.take_of_length_le (by omega)] at hJj; exact hJj)⟩
set_option maxRecDepth 100000 in
set_option maxHeartbeats 1000000 in
theorem sorted_nil (f g : Value) (w : World) : Ret Try.prog 47 [.pointer none, f, g] w [] (fun v _ => v = .slice none 0 0) := by
  refine enter (n := 32) (args := [.pointer none, f, g]) [] [] Try.func47 rfl rfl rfl (HpOK.nil w) (by simp) ?_
  refine wc_seq ?_
  refine wc_plain [(0, .x true)] (by kernel_rfl) ?_
  refine ws_l rfl rfl rfl rfl (rd_assign rfl) ?_
  refine ws_nil ?_
  refine qe_then ?_
  refine wc_seq ?_
  refine wc_seq ?_
  refine wc_plain [(0, .x true), (1, .x true)] (by kernel_rfl) ?_
  refine ws_l rfl rfl rfl rfl (rd_move rfl) ?_
  refine ws_l rfl rfl rfl rfl (rd_nil_nil rfl rfl Try.underlying35 rfl) ?_
  refine ws_nil ?_
  refine qe_then ?_
  refine wc_true rfl ?_
  refine wc_seq ?_
  refine wc_plain [(0, .x true)] (by kernel_rfl) ?_
  refine ws_l rfl rfl rfl rfl (rd_assign rfl) ?_
  refine ws_nil ?_
  refine qe_then ?_
  refine wc_ret ?_
  refine qe_then_ret ?_
  refine qe_body _ (.inl rfl) (res1 rfl (RV.tmp rfl)) ?_
  exact ret_end fun w hp hn ho => rfl
theorem all1_nil (c : Nat) : Iter Try.prog 50 [ptr c] entK [] (fun ν φ => (c, Obj.cells #[.pointer none] 35 (0, 0)) ∈ ν ++ φ) :=
  all1_iter (.pointer none) [] (by simp) c (fun ζ => (c, Obj.cells #[.pointer none] 35 (0, 0)) ∈ ζ) (fun _ h => h) (fun ζ w _ _ _ => (sorted_nil _ _ w).mono (fun _ h => h) (fun v w' _ h => ⟨[], by rw [h]; exact OwnR.nil _ _ _, HpOK.nil w'⟩))
theorem all1_hist (p m : Nat) (cut : Int) (es : Array MapEntry) (clock : Nat) (L : HMap) (hL : MapIs idK entK es clock L) (hne : p ≠ m) (hlen : L.length < 1048576) (rows : List Ent) (hrel : Rel L rows) (c : Nat) : Iter Try.prog 50 [ptr c] entK rows (fun ν φ => (c, Obj.cells #[ptr p] 35 (0, 0)) ∈ ν ++ φ ∧ ∀ q ∈ hist p m cut es clock, q ∈ ν ++ φ) :=
  all1_iter (ptr p) rows (by rw [← hrel.len]; exact hlen) c (fun ζ => (c, Obj.cells #[ptr p] 35 (0, 0)) ∈ ζ ∧ ∀ q ∈ hist p m cut es clock, q ∈ ζ) (fun _ h => h.1) (fun ζ w h hp hn => (sorted_ret (κ := []) isKeep_every isCmp_id p m cut es clock L hL hlen w (hp.mono h.2) (by simp [hne])).mono (fun _ h => h) (fun v w' _ hh => by
    obtain ⟨u, ν, ys, rfl, h2, h3, h4, h5⟩ := hh
    have e := hrel.sorted _ h4 h5
    rw [List.filter_eq_self.2 (by simp)] at e
    subst e
    exact ⟨ν, h2, h3⟩))
set_option maxRecDepth 100000 in
set_option maxHeartbeats 1000000 in
theorem all_ret (q : Option Addr) (w : World) : Ret Try.prog 22 [.pointer q] w [] (fun v w' => ∃ c, v = .func (.func 50) #[] #[ptr c] ∧ w.heap.size ≤ c ∧ HpOK [(c, .cells #[.pointer q] 35 (0, 0))] w') := by
  refine enter (n := 4) (args := [.pointer q]) [] [] Try.func22 rfl rfl rfl (HpOK.nil w) (by simp) ?_
  refine wc_seq ?_
  refine wc_plain [(0, .x true), (1, .x true)] (by kernel_rfl) ?_
  refine ws_box rfl rfl rfl rfl ?_
  intro b1 hb1
  refine ws_l rfl rfl rfl rfl (rd_assign rfl) ?_
  refine ws_nil ?_
  refine qe_then ?_
  refine wc_seq ?_
  refine wc_plain [(0, .x true), (1, .x true)] (by kernel_rfl) ?_
  refine ws_l rfl rfl rfl rfl (rd_mkfunc rfl rfl) ?_
  refine ws_l rfl rfl rfl rfl (rd_assign rfl) ?_
  refine ws_nil ?_
  refine qe_then ?_
  refine wc_ret ?_
  refine qe_body _ (.inl rfl) (res1 rfl (RV.tmp rfl)) ?_
  exact ret_end fun w hp hn ho => ⟨b1, rfl, hb1, hp⟩
set_option maxRecDepth 100000 in
set_option maxHeartbeats 1000000 in
theorem entries_ret (p m : Nat) (cut : Int) (es : Array MapEntry) (clock : Nat) (L : HMap) (hL : MapIs idK entK es clock L) (hne : p ≠ m) (hlen : L.length < 1048576) (rows : List Ent) (hrel : Rel L rows) (w : World) (hη : HpOK (hist p m cut es clock) w) : Ret Try.prog 29 [ptr p] w [] (fun v w' => ∃ ν : Heap, OwnR w.heap.size 24 36 v ν rows.length (rows.flatMap entL) ∧ HpOK ν w') := by
  refine enterM (n := 14) (args := [ptr p]) [] (hist p m cut es clock) Try.func29 rfl rfl rfl hη (by simp [hne]) ?_
  refine wc_seq ?_
  refine wc_plain [(0, .x true)] (by kernel_rfl) ?_
  refine ws_l rfl rfl rfl rfl (rd_assign rfl) ?_
  refine ws_nil ?_
  refine qe_then ?_
  refine wc_seq ?_
  refine wc_plain [(0, .x true)] (by kernel_rfl) ?_
  refine ws_alloc rfl rfl rfl ?_
  intro b3 hb3
  refine ws_nil ?_
  refine qe_then ?_
  refine wc_seq ?_
  refine wc_seq ?_
  refine wc_plain [(0, .x true), (1, .x true)] (by kernel_rfl) ?_
  refine ws_l rfl rfl rfl rfl (rd_move rfl) ?_
  refine ws_call rfl rfl rfl rfl rfl (En.go) (fun w hp hn ho => all_ret _ w) (fun _ h => by cases h) (fun hh q h => by first | (cases h; done) | exact hh q h) ?_
  rintro v6 wa wb hpo hon hon2 hp1 ⟨c, rfl, hc0, hc⟩
  refine ⟨[(c, _)], hc, by simp, fun b hb => .inl (by simp at hb; subst hb; exact hc0), ?_⟩
  replace hc0 := Nat.le_trans hon.size hc0
  simp only [List.cons_append, List.nil_append]
  refine ws_nil ?_
  refine qe_then ?_
  refine wc_block ?_
  refine wc_range ([(b3, Obj.cells #[.slice none 0 0] 36 (0, 0))]) ((c, Obj.cells #[ptr p] 35 (0, 0)) :: hist p m cut es clock) (fun pre ν => ∃ vo νo, ν = (b3, Obj.cells #[vo] 36 (0, 0)) :: νo ∧ OwnR w.heap.size 24 36 vo νo pre.length (pre.flatMap entL)) (fun _ _ _ => False) rfl (En.go) rfl rfl (fun b hb => .inl (by simp at hb; subst hb; exact hb3)) ⟨_, [], rfl, OwnR.nil _ _ _⟩ (all1_hist p m cut es clock L hL hne hlen rows hrel c) (fun ζ hζ => ⟨hζ _ (by simp), fun q hq => hζ q (by simp at hq ⊢; rcases hq with h | h <;> simp [h])⟩) ?_ ?_ ?_
  · intro mk D lp pre x rest νr w1 hrec hxs hJr hfr hw1
    obtain ⟨vo, νo, rfl, hown⟩ := hJr
    have hpl : pre.length < rows.length := by rw [hxs]; simp
    have hrl := hrel.len
    refine wc_eqh (η' := (lp, mk .ready none) :: (D, dblk) :: (b3, .cells #[vo] 36 (0, 0)) :: (νo ++ ((c, Obj.cells #[ptr p] 35 (0, 0)) :: hist p m cut es clock))) rfl ?_
    refine wc_plain [(0, .x true), (1, .x true)] (by kernel_rfl) ?_
    refine ws_alloc rfl rfl rfl ?_
    intro b4 hb4
    refine ws_store rfl rfl rfl rfl (by first | exact .inl (by assumption) | exact .inr (by simp)) (fun _ h _ => by first | (cases h; done) | exact List.mem_cons_of_mem _ h | exact List.mem_cons_of_mem _ (List.mem_cons_of_mem _ h) | (simp at h ⊢; simp [h])) ?_
    refine ws_nil ?_
    refine qe_begin hrec (.inr (by simp)) ?_
    refine wc_block ?_
    refine wc_drawn mixedT _ (fun _ h => h) [(0, .r), (1, .r), (2, .x false), (3, .x false), (4, .x true), (5, .x true)] (by kernel_rfl) ?_
    refine ws_r rfl rfl rfl rfl (rd_load rfl) ?_
    refine ws_r rfl rfl rfl rfl (rd_load rfl) ?_
    refine ws_callp rfl rfl rfl rfl rfl (En.go) (fun w hp hn ho => of_ret _ w) ?_
    refine ws_buildSlice rfl rfl rfl rfl ?_
    intro b11 hb11
    refine ws_late rfl ?_
    refine ws_appendB rfl rfl rfl rfl rfl hown (by simp [entC_size]) (entC_one _) hw1 (fun b hb => .inr (List.mem_cons_of_mem _ (List.mem_cons_of_mem _ (List.mem_cons_of_mem _ hb)))) (by simp only [maxLen]; omega) (by omega) (fun _ _ _ h => by first | (cases h; done) | skip) ?_
    intro vo' νo' hown' hfo'
    have hoc1 : OneC vo' := hown'.oneC
    refine ws_store rfl rfl rfl rfl (by first | exact .inl (by assumption) | exact .inr (by simp)) (fun _ h _ => by first | (cases h; done) | exact List.mem_cons_of_mem _ h | exact List.mem_cons_of_mem _ (List.mem_cons_of_mem _ h) | (simp at h ⊢; simp [h])) ?_
    refine ws_nil ?_
    refine qe_block ?_
    exact qe_next hrec ((b3, Obj.cells #[vo'] 36 (0, 0)) :: νo') (fun b hb => by simp only [List.map_cons, List.mem_cons] at hb ⊢; rcases hb with rfl | hb; exact .inr (.inl rfl); exact (hfo' b hb).imp id .inr) (⟨vo', νo', rfl, Row.app hown' rfl (by simp)⟩)
  · intro D νr hD hJr hfr
    obtain ⟨vo, νo, rfl, hown⟩ := hJr
    refine qe_eqh (η' := (D, dblk) :: (b3, .cells #[vo] 36 (0, 0)) :: (νo ++ ((c, Obj.cells #[ptr p] 35 (0, 0)) :: hist p m cut es clock))) rfl ?_
    refine qe_block ?_
    refine qe_then ?_
    refine wc_seq ?_
    refine wc_plain [(0, .x true), (1, .x true)] (by kernel_rfl) ?_
    refine ws_l rfl rfl rfl rfl (rd_load rfl) ?_
    refine ws_l rfl rfl rfl rfl (rd_assign rfl) ?_
    refine ws_nil ?_
    refine qe_then ?_
    refine wc_ret ?_
    refine qe_bodyM1 rfl hD _ (.inl rfl) (res1 rfl (RV.tmp rfl)) ?_
    exact ret_end fun w hp hn ho => ⟨νo, hown, hp.mono (fun q hq => List.mem_cons_of_mem _ (List.mem_append_left _ hq))⟩
  · intro D pre rest c νr hD hxs hXr hfr
    exact hXr.elim

end Go.Proofs.Ytegjmmjjchpeoaa
