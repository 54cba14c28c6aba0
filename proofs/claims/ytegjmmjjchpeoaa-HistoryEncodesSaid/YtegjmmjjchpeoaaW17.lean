/- Walks: Decode of both. No conditions. -/
import Derived.Test.YtegjmmjjchpeoaaW16
namespace Go.Proofs.Ytegjmmjjchpeoaa
open Go Go.RowKit Go.Sx
set_option linter.unusedSimpArgs false
set_option linter.unusedVariables false

theorem upto_next {b : List UInt8} {k : Nat} (h : upto b k) (h1 : lastOK b k) (h2 : nextOK b k) : upto b (k + 1) := fun i hi => by
  rcases Nat.lt_or_ge i k with hk | hk
  · exact h i hk
  · obtain rfl : i = k := by omega
    exact ⟨h1, h2⟩
theorem upto_last {b : List UInt8} {k : Nat} (h : upto b (k + 1)) : ∀ y ∈ rowsB b k, idLt y.id (entB b k).id := by
  have hs := upto_srt h
  rw [rowsB_succ, List.pairwise_append] at hs
  exact fun y hy => hs.2.2 y hy _ (by simp)
theorem rem41 (n : Nat) : ((n : Nat) : Int).tmod 41 = ((n % 41 : Nat) : Int) := rfl
set_option maxRecDepth 100000 in
set_option maxHeartbeats 1000000 in
theorem decode_short (A : Option Addr) (n c : Nat) (hn : n < 4) (w : World) : Ret Try.prog 31 [.slice A n c] w [] (fun v _ => v = .tuple #[.pointer none, I 3]) := by
  refine enterM (n := 74) (args := [.slice A n c]) [] [] Try.func31 rfl rfl rfl (HpOK.nil w) (by simp) ?_
  refine wc_seq ?_
  refine wc_plain [(0, .x true), (1, .x true)] (by kernel_rfl) ?_
  refine ws_alloc rfl rfl rfl ?_
  intro b2 hb2
  refine ws_alloc rfl rfl rfl ?_
  intro b3 hb3
  refine ws_nil ?_
  refine qe_then ?_
  refine wc_seq ?_
  refine wc_seq ?_
  refine wc_plain [(0, .x true), (1, .x true), (2, .x true), (3, .x true), (4, .x true), (5, .x true), (6, .x true), (7, .x true), (8, .x true), (9, .x true), (10, .x true), (11, .x true), (12, .x true), (13, .x true), (14, .x true), (15, .x true)] (by kernel_rfl) ?_
  refine ws_l rfl rfl rfl rfl (rd_move rfl) ?_
  refine ws_l rfl rfl rfl rfl (rd_len rfl Try.underlying64) ?_
  refine ws_l rfl rfl rfl rfl (rd_cmp_t rfl rfl rfl (by simp only [cmpP]; omega)) ?_
  refine ws_l rfl rfl rfl rfl (rd_move rfl) ?_
  refine ws_xskip rfl rfl rfl rfl ?_
  refine ws_xskip rfl rfl rfl rfl ?_
  refine ws_xskip rfl rfl rfl rfl ?_
  refine ws_xskip rfl rfl rfl rfl ?_
  refine ws_xskip rfl rfl rfl rfl ?_
  refine ws_l rfl rfl rfl rfl (rd_pick_t rfl rfl) ?_
  refine ws_l rfl rfl rfl rfl (rd_move rfl) ?_
  refine ws_xskip rfl rfl rfl rfl ?_
  refine ws_xskip rfl rfl rfl rfl ?_
  refine ws_xskip rfl rfl rfl rfl ?_
  refine ws_xskip rfl rfl rfl rfl ?_
  refine ws_l rfl rfl rfl rfl (rd_pick_t rfl rfl) ?_
  refine ws_nil ?_
  refine qe_then ?_
  refine wc_keep [(0, _), (2, _), (3, _), (24, _)] rfl ?_
  refine wc_true rfl ?_
  refine wc_seq ?_
  refine wc_plain [(0, .x true), (1, .x true)] (by kernel_rfl) ?_
  refine ws_store rfl rfl rfl rfl (by first | exact .inl (by assumption) | exact .inr (by simp)) (fun _ h _ => by first | (cases h; done) | exact List.mem_cons_of_mem _ h | exact List.mem_cons_of_mem _ (List.mem_cons_of_mem _ h) | (simp at h ⊢; simp [h])) ?_
  refine ws_store rfl rfl rfl rfl (by first | exact .inl (by assumption) | exact .inr (by simp)) (fun _ h _ => by first | (cases h; done) | exact List.mem_cons_of_mem _ h | exact List.mem_cons_of_mem _ (List.mem_cons_of_mem _ h) | (simp at h ⊢; simp [h])) ?_
  refine ws_nil ?_
  refine qe_then ?_
  refine wc_ret ?_
  refine qe_then_ret ?_
  refine qe_bodyM0 _ (.inl rfl) (res2 rfl (RV.cell rfl) (RV.cell rfl)) ?_
  exact ret_end fun w hp hn ho => rfl
set_option maxRecDepth 100000 in
set_option maxHeartbeats 4000000 in
theorem decode_ret (g o n c : Nat) (cs : Array Value) (E : TypeId) (fr : Nat × Nat) (bs : List UInt8) (hB : BytesAt cs o n bs) (hnc : n ≤ c) (hn0 : n ≤ 40000000) (w : World) (hη : HpOK [(g, .cells cs E fr)] w) : Ret Try.prog 31 [.slice (some ⟨g, o, none⟩) n c] w [] (fun v w' => (¬ decOK bs ∧ v = .tuple #[.pointer none, I 3]) ∨ (decOK bs ∧ ∃ (p m : Nat) (es : Array MapEntry) (cl : Nat) (L : HMap), v = .tuple #[ptr p, I 0] ∧ w.heap.size ≤ p ∧ w.heap.size ≤ m ∧ p ≠ m ∧ HpOK (hist p m (n4 bs 0) es cl) w' ∧ MapIs idK entK es cl L ∧ Rel L (rowsB bs (cnt bs)))) := by
  obtain ⟨o4, ho4⟩ : ∃ o4, (if c = 4 then o else o + 4 * 1) = o4 := ⟨_, rfl⟩
  have hBl := hB.len
  refine enterM (n := 74) (args := [.slice (some ⟨g, o, none⟩) n c]) [] [(g, .cells cs E fr)] Try.func31 rfl rfl rfl hη (by simp) ?_
  refine wc_seq ?_
  refine wc_plain [(0, .x true), (1, .x true)] (by kernel_rfl) ?_
  refine ws_alloc rfl rfl rfl ?_
  intro b2 hb2
  refine ws_alloc rfl rfl rfl ?_
  intro b3 hb3
  refine ws_nil ?_
  refine qe_then ?_
  refine wc_seq ?_
  refine wc_seq ?_
  refine wc_plain [(0, .x true), (1, .x true), (2, .x true), (3, .x true), (4, .x true), (5, .x true), (6, .x true), (7, .x true), (8, .x true), (9, .x true), (10, .x true), (11, .x true), (12, .x true), (13, .x true), (14, .x true), (15, .x true)] (by kernel_rfl) ?_
  refine ws_l rfl rfl rfl rfl (rd_move rfl) ?_
  refine ws_l rfl rfl rfl rfl (rd_len rfl Try.underlying64) ?_
  refine ws_lcmp rfl rfl rfl (rfl) (rfl) (rfl) ?_ ?_
  · intro h11
    refine ws_l rfl rfl rfl rfl (rd_move rfl) ?_
    refine ws_xskip rfl rfl rfl rfl ?_
    refine ws_xskip rfl rfl rfl rfl ?_
    refine ws_xskip rfl rfl rfl rfl ?_
    refine ws_xskip rfl rfl rfl rfl ?_
    refine ws_xskip rfl rfl rfl rfl ?_
    refine ws_l rfl rfl rfl rfl (rd_pick_t rfl rfl) ?_
    refine ws_l rfl rfl rfl rfl (rd_move rfl) ?_
    refine ws_xskip rfl rfl rfl rfl ?_
    refine ws_xskip rfl rfl rfl rfl ?_
    refine ws_xskip rfl rfl rfl rfl ?_
    refine ws_xskip rfl rfl rfl rfl ?_
    refine ws_l rfl rfl rfl rfl (rd_pick_t rfl rfl) ?_
    refine ws_nil ?_
    refine qe_then ?_
    refine wc_keep [(0, _), (2, _), (3, _), (24, _)] rfl ?_
    refine wc_true rfl ?_
    refine wc_seq ?_
    refine wc_plain [(0, .x true), (1, .x true)] (by kernel_rfl) ?_
    refine ws_store rfl rfl rfl rfl (by first | exact .inl (by assumption) | exact .inr (by simp)) (fun _ h _ => by first | (cases h; done) | exact List.mem_cons_of_mem _ h | exact List.mem_cons_of_mem _ (List.mem_cons_of_mem _ h) | (simp at h ⊢; simp [h])) ?_
    refine ws_store rfl rfl rfl rfl (by first | exact .inl (by assumption) | exact .inr (by simp)) (fun _ h _ => by first | (cases h; done) | exact List.mem_cons_of_mem _ h | exact List.mem_cons_of_mem _ (List.mem_cons_of_mem _ h) | (simp at h ⊢; simp [h])) ?_
    refine ws_nil ?_
    refine qe_then ?_
    refine wc_ret ?_
    refine qe_then_ret ?_
    refine qe_bodyM0 _ (.inl rfl) (res2 rfl (RV.cell rfl) (RV.cell rfl)) ?_
    exact ret_end fun w hp hn ho => .inl ⟨fun h => by obtain ⟨⟨e1, e2, e3⟩, e5⟩ := h; have e4 := hB.len; first | omega | (rw [e3] at h22; cases h22), rfl⟩
  · intro h11
    refine ws_l rfl rfl rfl rfl (rd_move rfl) ?_
    refine ws_l rfl rfl rfl rfl (rd_move rfl) ?_
    refine ws_l rfl rfl rfl rfl (rd_len rfl Try.underlying64) ?_
    refine ws_l rfl rfl rfl rfl (rd_arith ((n - 4 : Nat) : Int) rfl rfl rfl (by rw [wrap_i64 _ (by omega) (by omega)]; omega)) ?_
    refine ws_l rfl rfl rfl rfl (rd_rem (((n - 4) % 41 : Nat) : Int) rfl rfl (by decide) (rem41 _)) ?_
    refine ws_lcmp rfl rfl rfl (rfl) (rfl) (rfl) ?_ ?_
    · intro h17
      refine ws_l rfl rfl rfl rfl (rd_pick_f rfl rfl) ?_
      refine ws_l rfl rfl rfl rfl (rd_move rfl) ?_
      refine ws_xskip rfl rfl rfl rfl ?_
      refine ws_xskip rfl rfl rfl rfl ?_
      refine ws_xskip rfl rfl rfl rfl ?_
      refine ws_xskip rfl rfl rfl rfl ?_
      refine ws_l rfl rfl rfl rfl (rd_pick_t rfl rfl) ?_
      refine ws_nil ?_
      refine qe_then ?_
      refine wc_keep [(0, _), (2, _), (3, _), (24, _)] rfl ?_
      refine wc_true rfl ?_
      refine wc_seq ?_
      refine wc_plain [(0, .x true), (1, .x true)] (by kernel_rfl) ?_
      refine ws_store rfl rfl rfl rfl (by first | exact .inl (by assumption) | exact .inr (by simp)) (fun _ h _ => by first | (cases h; done) | exact List.mem_cons_of_mem _ h | exact List.mem_cons_of_mem _ (List.mem_cons_of_mem _ h) | (simp at h ⊢; simp [h])) ?_
      refine ws_store rfl rfl rfl rfl (by first | exact .inl (by assumption) | exact .inr (by simp)) (fun _ h _ => by first | (cases h; done) | exact List.mem_cons_of_mem _ h | exact List.mem_cons_of_mem _ (List.mem_cons_of_mem _ h) | (simp at h ⊢; simp [h])) ?_
      refine ws_nil ?_
      refine qe_then ?_
      refine wc_ret ?_
      refine qe_then_ret ?_
      refine qe_bodyM0 _ (.inl rfl) (res2 rfl (RV.cell rfl) (RV.cell rfl)) ?_
      exact ret_end fun w hp hn ho => .inl ⟨fun h => by obtain ⟨⟨e1, e2, e3⟩, e5⟩ := h; have e4 := hB.len; first | omega | (rw [e3] at h22; cases h22), rfl⟩
    · intro h17
      refine ws_l rfl rfl rfl rfl (rd_pick_f rfl rfl) ?_
      refine ws_l rfl rfl rfl rfl (rd_move rfl) ?_
      refine ws_l rfl rfl rfl rfl (rd_move rfl) ?_
      refine ws_callp rfl rfl rfl rfl rfl (En.go) (fun w hp hn ho => number_ret g o n c cs E fr bs hB 0 (by omega) (by omega) w (hp.mono (by simp))) ?_
      refine ws_callb (minuteB _) rfl rfl rfl rfl rfl (En.go) (fun w hp hn ho => minute_ret _ w) ?_ ?_
      · intro h22
        refine ws_l rfl rfl rfl rfl (rd_not rfl) ?_
        refine ws_l rfl rfl rfl rfl (rd_pick_f rfl rfl) ?_
        refine ws_nil ?_
        refine qe_then ?_
        refine wc_keep [(0, _), (2, _), (3, _), (24, _)] rfl ?_
        refine wc_false rfl ?_
        refine wc_skip ?_
        refine qe_then ?_
        refine wc_seq ?_
        refine wc_plain [(0, .x true), (1, .x true), (2, .x true)] (by kernel_rfl) ?_
        refine ws_call rfl rfl rfl rfl rfl (En.go) (fun w hp hn ho => new_ret w) (fun _ h => by cases h) (fun hh q h => by first | (cases h; done) | exact hh q h) ?_
        rintro v25 wa wb hpo hon hon2 hp1 ⟨p, m, rfl, hp0, hm0, hne, hpm⟩
        refine ⟨hist p m 0 #[] 0, hpm, by simp [hne], fun b hb => .inl (by simp at hb; rcases hb with rfl | rfl; exact hp0; exact hm0), ?_⟩
        replace hp0 := Nat.le_trans hon.size hp0
        replace hm0 := Nat.le_trans hon.size hm0
        simp only [hist, List.cons_append, List.nil_append]
        refine ws_alloc rfl rfl rfl ?_
        intro b4 hb4
        refine ws_store rfl rfl rfl rfl (by first | exact .inl (by assumption) | exact .inr (by simp)) (fun _ h _ => by first | (cases h; done) | exact List.mem_cons_of_mem _ h | exact List.mem_cons_of_mem _ (List.mem_cons_of_mem _ h) | (simp at h ⊢; simp [h])) ?_
        refine ws_nil ?_
        refine qe_then ?_
        refine wc_seq ?_
        refine wc_drawn mixedT [(b4, .cells #[ptr p] 35 (0, 0))] (by simp) [(0, .r), (1, .r), (3, .r), (4, .r), (2, .x false), (5, .r), (6, .r), (7, .x false), (8, .x true)] (by kernel_rfl) ?_
        refine ws_r rfl rfl rfl rfl (rd_load rfl) ?_
        refine ws_r rfl rfl rfl rfl (rd_move rfl) ?_
        refine ws_r rfl rfl rfl rfl (rd_move rfl) ?_
        refine ws_r rfl rfl rfl rfl (rd_sliceLo (i := 4) o4 Try.underlying64 rfl rfl Try.sizeOf5 (by omega) ho4) ?_
        refine ws_callp rfl rfl rfl rfl rfl (En.go) (fun w hp hn ho => number_ret g o n c cs E fr bs hB 0 (by omega) (by omega) w (hp.mono (by simp))) ?_
        refine ws_r rfl rfl rfl rfl (rd_nil rfl) ?_
        refine ws_r rfl rfl rfl rfl (rd_fieldAddr rfl) ?_
        refine ws_store rfl rfl rfl rfl (.inl (by assumption)) (fun q h _ => by simp at h ⊢; simp [h]) ?_
        refine ws_late rfl ?_
        refine ws_l rfl rfl rfl rfl (rd_assign rfl) ?_
        refine ws_nil ?_
        refine qe_then ?_
        refine wc_keep [(0, _), (2, _), (3, _), (4, _)] rfl ?_
        refine wc_seq ?_
        refine wc_plain [(0, .x true)] (by kernel_rfl) ?_
        refine ws_alloc rfl rfl rfl ?_
        intro b5 hb5
        refine ws_nil ?_
        refine qe_then ?_
        refine wc_seq ?_
        refine wc_seq ?_
        refine wc_plain [(0, .x true), (1, .x true)] (by kernel_rfl) ?_
        refine ws_l rfl rfl rfl rfl (rd_move rfl) ?_
        refine ws_call rfl rfl rfl rfl rfl (En.go) (fun w hp hn ho => chunk_ret _ _ _ w) (fun _ h => by cases h) (fun hh q h => by first | (cases h; done) | exact hh q h) ?_
        rintro v34 wa wb hpo hon hon2 hp1 ⟨c1, c2, rfl, hc10, hc20, hcc, hcne⟩
        refine ⟨[(c1, _), (c2, _)], hcc, by simp [hcne], fun b hb => .inl (by simp at hb; rcases hb with rfl | rfl; exact hc10; exact hc20), ?_⟩
        simp only [List.cons_append, List.nil_append]
        refine ws_nil ?_
        refine qe_then ?_
        refine wc_block ?_
        refine wc_range ([(b5, Obj.cells (entC ent0) 29 (0, 0)), (m, .map #[] 0), (b2, .cells #[.pointer none] 35 (0, 0)), (b3, .cells #[I 0] 26 (0, 0))]) ((c1, Obj.cells #[.slice (some ⟨g, o4, none⟩) (n - 4) (c - 4)] 64 (0, 0)) :: (c2, .cells #[I 41] 3 (0, 0)) :: (b4, .cells #[ptr p] 35 (0, 0)) :: (p, .cells #[.map (some m), I (n4 bs 0)] 86 (0, 0)) :: (g, .cells cs E fr) :: []) (fun pre ν => ∃ (prev : Ent) (es1 : Array MapEntry) (cl1 : Nat) (L1 : HMap), ν = [(b5, Obj.cells (entC prev) 29 (0, 0)), (m, .map es1 cl1), (b2, .cells #[.pointer none] 35 (0, 0)), (b3, .cells #[I 0] 26 (0, 0))] ∧ MapIs idK entK es1 cl1 L1 ∧ Rel L1 (rowsB bs pre.length) ∧ upto bs pre.length ∧ (pre.length = 0 ∨ prev = entB bs (pre.length - 1))) (fun pre c0 ν => ∃ (prev : Ent) (es1 : Array MapEntry) (cl1 : Nat), c0 = .ret ∧ ν = [(b5, Obj.cells (entC prev) 29 (0, 0)), (m, .map es1 cl1), (b2, .cells #[.pointer none] 35 (0, 0)), (b3, .cells #[I 3] 26 (0, 0))] ∧ ¬ decOK bs) rfl (En.go) rfl rfl (fun b hb => .inl (by simp at hb; rcases hb with rfl | rfl | rfl | rfl; exact hb5; exact hm0; exact hb2; exact hb3)) ⟨ent0, #[], 0, [], rfl, MapIs.empty _ _ _, Rel.nil, fun i hi => absurd hi (Nat.not_lt_zero i), .inl rfl⟩ (chunk_iter g o4 (n - 4) (c - 4) (cnt bs) c1 c2 (by unfold cnt; rw [hBl]; omega) (by omega) (by unfold cnt; omega)) (fun ζ hζ => ⟨by simp, by simp⟩) ?_ ?_ ?_
        · intro mk D lp pre x rest νr wr hrec hxs hJr hfr hw1
          obtain ⟨prev, es1, cl1, L1, rfl, hL1, hrel1, hup1, hpv1⟩ := hJr
          obtain ⟨rfl, hxk⟩ := range_split hxs
          have hxn : 4 + 41 * pre.length + 41 ≤ n := by unfold cnt at hxk; omega
          have hc4 : o4 = o + 4 := by rw [← ho4, if_neg (by omega)]
          have hBx : BytesAt cs (o4 + 41 * pre.length) 41 ((bs.drop (4 + 41 * pre.length)).take 41) := by rw [hc4, Nat.add_assoc]; exact bytes_sub hB _ 41 (by omega)
          have hent : entAt ((bs.drop (4 + 41 * pre.length)).take 41) 0 = entB bs pre.length := by rw [entAt_take (by omega), entAt_drop]
          have hlst : byteAt ((bs.drop (4 + 41 * pre.length)).take 41) 40 = byteAt bs (4 + 41 * pre.length + 40) := by rw [byteAt_take (by omega), byteAt_drop]
          have hln1 : L1.length = pre.length := by rw [hrel1.len, rowsB_len]
          refine wc_eqh (η' := (lp, mk .ready none) :: (D, dblk) :: (b5, Obj.cells (entC prev) 29 (0, 0)) :: (m, .map es1 cl1) :: (b2, .cells #[.pointer none] 35 (0, 0)) :: (b3, .cells #[I 0] 26 (0, 0)) :: ((c1, Obj.cells #[.slice (some ⟨g, o4, none⟩) (n - 4) (c - 4)] 64 (0, 0)) :: (c2, .cells #[I 41] 3 (0, 0)) :: (b4, .cells #[ptr p] 35 (0, 0)) :: (p, .cells #[.map (some m), I (n4 bs 0)] 86 (0, 0)) :: (g, .cells cs E fr) :: [])) rfl ?_
          refine wc_plain [(0, .x true)] (by kernel_rfl) ?_
          refine ws_l rfl rfl rfl rfl (rd_assign rfl) ?_
          refine ws_nil ?_
          refine qe_begin hrec (.inr (by simp)) ?_
          refine wc_block ?_
          refine wc_seq ?_
          refine wc_plain [(0, .x true), (1, .x true), (2, .x true), (3, .x true), (4, .x true), (5, .x true), (6, .x true), (7, .x true)] (by kernel_rfl) ?_
          refine ws_l rfl rfl rfl rfl (rd_move rfl) ?_
          by_cases hlk : lastOK bs pre.length
          ·
            refine ws_callp rfl rfl rfl rfl rfl (En.go) (fun w hp hn ho => (entry_ret g _ 41 cs E fr _ hBx (by omega) w (hp.mono (by simp))).mono (fun _ h => h) (fun v w1 _ h => by rw [h, hent, hlst, decide_eq_true (show (byteAt bs (4 + 41 * pre.length + 40) ≤ 3 ∧ checkE (entB bs pre.length) = 0) from hlk)] : ∀ (v : Value) (w1 : World), Only [] w w1 → v = _ → v = Value.tuple #[entK (entB bs pre.length), .bool true])) ?_
            refine ws_l rfl rfl rfl rfl (rd_move rfl) ?_
            refine ws_l rfl rfl rfl rfl (rd_extract rfl) ?_
            refine ws_l rfl rfl rfl rfl (rd_extract rfl) ?_
            refine ws_alloc rfl rfl rfl ?_
            intro b7 hb7
            refine ws_store rfl rfl rfl rfl (by first | exact .inl (by assumption) | exact .inr (by simp)) (fun _ h _ => by first | (cases h; done) | exact List.mem_cons_of_mem _ h | exact List.mem_cons_of_mem _ (List.mem_cons_of_mem _ h) | (simp at h ⊢; simp [h])) ?_
            refine ws_l rfl rfl rfl rfl (rd_assign rfl) ?_
            refine ws_nil ?_
            refine qe_then ?_
            refine wc_keep [(2, _), (3, _), (4, _), (5, _), (7, _), (8, _)] rfl ?_
            refine wc_seq ?_
            refine wc_seq ?_
            refine wc_plain [(0, .x true), (1, .x true), (2, .x true), (3, .x true), (4, .x true), (5, .x true), (6, .x true), (7, .x true), (8, .x true), (9, .x true), (10, .x true), (11, .x true), (12, .x true), (13, .x true), (14, .x true), (15, .x true)] (by kernel_rfl) ?_
            refine ws_l rfl rfl rfl rfl (rd_move rfl) ?_
            refine ws_l rfl rfl rfl rfl (rd_not rfl) ?_
            refine ws_l rfl rfl rfl rfl (rd_move rfl) ?_
            refine ws_l rfl rfl rfl rfl (rd_load rfl) ?_
            refine ws_l rfl rfl rfl rfl (rd_nil rfl) ?_
            refine ws_l rfl rfl rfl rfl (rd_fieldAddr rfl) ?_
            refine ws_l rfl rfl rfl rfl (rd_load rfl) ?_
            refine ws_l rfl rfl rfl rfl (rd_lenmap (ek := idK) (en := entK) hL1 Try.underlying84 rfl) ?_
            refine ws_lcmp rfl rfl rfl (rfl) (rfl) (rfl) ?_ ?_
            · intro h49
              refine ws_l rfl rfl rfl rfl (rd_move rfl) ?_
              refine ws_l rfl rfl rfl rfl (rd_load rfl) ?_
              refine ws_l rfl rfl rfl rfl (rd_load rfl) ?_
              refine ws_callp rfl rfl rfl rfl rfl (En.go) (fun w hp hn ho => byid_ret _ _ w) ?_
              refine ws_lcmp rfl rfl rfl (rfl) (rfl) (rfl) ?_ ?_
              · intro h54
                refine ws_l rfl rfl rfl rfl (rd_pick_t rfl rfl) ?_
                refine ws_l rfl rfl rfl rfl (rd_pick_f rfl rfl) ?_
                refine ws_nil ?_
                refine qe_then ?_
                refine wc_keep [(2, _), (3, _), (4, _), (5, _), (7, _), (56, _)] rfl ?_
                refine wc_true rfl ?_
                refine wc_seq ?_
                refine wc_plain [(0, .x true), (1, .x true)] (by kernel_rfl) ?_
                refine ws_store rfl rfl rfl rfl (by first | exact .inl (by assumption) | exact .inr (by simp)) (fun _ h _ => by first | (cases h; done) | exact List.mem_cons_of_mem _ h | exact List.mem_cons_of_mem _ (List.mem_cons_of_mem _ h) | (simp at h ⊢; simp [h])) ?_
                refine ws_store rfl rfl rfl rfl (by first | exact .inl (by assumption) | exact .inr (by simp)) (fun _ h _ => by first | (cases h; done) | exact List.mem_cons_of_mem _ h | exact List.mem_cons_of_mem _ (List.mem_cons_of_mem _ h) | (simp at h ⊢; simp [h])) ?_
                refine ws_nil ?_
                refine qe_then ?_
                refine wc_ret ?_
                refine qe_then_ret ?_
                refine qe_block_ret ?_
                exact qe_rret hrec ([(b5, Obj.cells (entC prev) 29 (0, 0)), (m, .map es1 cl1), (b2, .cells #[.pointer none] 35 (0, 0)), (b3, .cells #[I 3] 26 (0, 0))]) (fun b hb => by simp at hb; rcases hb with rfl | rfl | rfl | rfl <;> exact .inr (by simp)) (⟨prev, es1, cl1, rfl, rfl, fun h => by rcases (h.2 pre.length hxk).2 with h0 | h0; omega; rcases hpv1 with h1 | h1; omega; subst h1; have := (cmpId_lt _ _).2 h0; omega⟩)
              · intro h54
                refine ws_l rfl rfl rfl rfl (rd_pick_t rfl rfl) ?_
                refine ws_l rfl rfl rfl rfl (rd_pick_f rfl rfl) ?_
                refine ws_nil ?_
                refine qe_then ?_
                refine wc_keep [(2, _), (3, _), (4, _), (5, _), (7, _), (56, _)] rfl ?_
                refine wc_false rfl ?_
                refine wc_skip ?_
                refine qe_then ?_
                refine wc_drawn mixedT [(b4, .cells #[ptr p] 35 (0, 0)), (p, .cells #[.map (some m), I (n4 bs 0)] 86 (0, 0)), (b7, .cells (entC (entB bs pre.length)) 29 (0, 0))] (by simp) [(0, .r), (1, .r), (2, .r), (3, .r), (4, .r), (5, .r), (6, .r), (7, .r), (8, .x false), (9, .r), (10, .x false), (11, .x true)] (by kernel_rfl) ?_
                refine ws_r rfl rfl rfl rfl (rd_load rfl) ?_
                refine ws_r rfl rfl rfl rfl (rd_nil rfl) ?_
                refine ws_r rfl rfl rfl rfl (rd_fieldAddr rfl) ?_
                refine ws_r rfl rfl rfl rfl (rd_load rfl) ?_
                refine ws_r rfl rfl rfl rfl (rd_fieldAddr rfl) ?_
                refine ws_r rfl rfl rfl rfl (rd_load rfl) ?_
                refine ws_r rfl rfl rfl rfl (rd_load rfl) ?_
                refine ws_r rfl rfl rfl rfl (rd_load rfl) ?_
                refine ws_mapEntry (ek := idK) (en := entK) Try.underlying84 hL1 ent0 zero29 rfl rfl rfl rfl rfl (.inr (by simp)) (fun es clx q h _ => by simp at h ⊢; rcases h with h | h | h <;> simp [h]) ?_
                intro es2 cl2 stp hL2 hop
                refine ws_r rfl rfl rfl rfl (rd_extract rfl) ?_
                refine ws_entryStore (ek := idK) (en := entK) (K := 27) hL2 hop rfl rfl rfl rfl rfl (.inr (by simp)) (fun es q h _ => by simp at h ⊢; rcases h with h | h | h <;> simp [h]) ?_
                intro es3 hL3
                refine ws_late rfl ?_
                refine ws_store rfl rfl rfl rfl (by first | exact .inl (by assumption) | exact .inr (by simp)) (fun _ h _ => by first | (cases h; done) | exact List.mem_cons_of_mem _ h | exact List.mem_cons_of_mem _ (List.mem_cons_of_mem _ h) | (simp at h ⊢; simp [h])) ?_
                refine ws_nil ?_
                refine qe_block ?_
                exact qe_next hrec ([(b5, Obj.cells (entC (entB bs pre.length)) 29 (0, 0)), (m, .map es3 cl2), (b2, .cells #[.pointer none] 35 (0, 0)), (b3, .cells #[I 0] 26 (0, 0))]) (fun b hb => by simp at hb; rcases hb with rfl | rfl | rfl | rfl <;> exact .inr (by simp)) (⟨entB bs pre.length, es3, cl2, _, rfl, by rw [upd_upd] at hL3; exact hL3, by rw [List.length_append, List.length_singleton, rowsB_succ]; exact rel_snoc hrel1 _ (upto_last (upto_next hup1 hlk (.inr (by rcases hpv1 with h | h; omega; subst h; exact (cmpId_lt _ _).1 (by omega))))), by rw [List.length_append]; exact upto_next hup1 hlk (.inr (by rcases hpv1 with h | h; omega; subst h; exact (cmpId_lt _ _).1 (by omega))), .inr (by simp)⟩)
            · intro h49
              refine ws_l rfl rfl rfl rfl (rd_move rfl) ?_
              refine ws_xskip rfl rfl rfl rfl ?_
              refine ws_xskip rfl rfl rfl rfl ?_
              refine ws_xskip rfl rfl rfl rfl ?_
              refine ws_xskip rfl rfl rfl rfl ?_
              refine ws_l rfl rfl rfl rfl (rd_pick_f rfl rfl) ?_
              refine ws_l rfl rfl rfl rfl (rd_pick_f rfl rfl) ?_
              refine ws_nil ?_
              refine qe_then ?_
              refine wc_keep [(2, _), (3, _), (4, _), (5, _), (7, _), (56, _)] rfl ?_
              refine wc_false rfl ?_
              refine wc_skip ?_
              refine qe_then ?_
              refine wc_drawn mixedT [(b4, .cells #[ptr p] 35 (0, 0)), (p, .cells #[.map (some m), I (n4 bs 0)] 86 (0, 0)), (b7, .cells (entC (entB bs pre.length)) 29 (0, 0))] (by simp) [(0, .r), (1, .r), (2, .r), (3, .r), (4, .r), (5, .r), (6, .r), (7, .r), (8, .x false), (9, .r), (10, .x false), (11, .x true)] (by kernel_rfl) ?_
              refine ws_r rfl rfl rfl rfl (rd_load rfl) ?_
              refine ws_r rfl rfl rfl rfl (rd_nil rfl) ?_
              refine ws_r rfl rfl rfl rfl (rd_fieldAddr rfl) ?_
              refine ws_r rfl rfl rfl rfl (rd_load rfl) ?_
              refine ws_r rfl rfl rfl rfl (rd_fieldAddr rfl) ?_
              refine ws_r rfl rfl rfl rfl (rd_load rfl) ?_
              refine ws_r rfl rfl rfl rfl (rd_load rfl) ?_
              refine ws_r rfl rfl rfl rfl (rd_load rfl) ?_
              refine ws_mapEntry (ek := idK) (en := entK) Try.underlying84 hL1 ent0 zero29 rfl rfl rfl rfl rfl (.inr (by simp)) (fun es clx q h _ => by simp at h ⊢; rcases h with h | h | h <;> simp [h]) ?_
              intro es2 cl2 stp hL2 hop
              refine ws_r rfl rfl rfl rfl (rd_extract rfl) ?_
              refine ws_entryStore (ek := idK) (en := entK) (K := 27) hL2 hop rfl rfl rfl rfl rfl (.inr (by simp)) (fun es q h _ => by simp at h ⊢; rcases h with h | h | h <;> simp [h]) ?_
              intro es3 hL3
              refine ws_late rfl ?_
              refine ws_store rfl rfl rfl rfl (by first | exact .inl (by assumption) | exact .inr (by simp)) (fun _ h _ => by first | (cases h; done) | exact List.mem_cons_of_mem _ h | exact List.mem_cons_of_mem _ (List.mem_cons_of_mem _ h) | (simp at h ⊢; simp [h])) ?_
              refine ws_nil ?_
              refine qe_block ?_
              exact qe_next hrec ([(b5, Obj.cells (entC (entB bs pre.length)) 29 (0, 0)), (m, .map es3 cl2), (b2, .cells #[.pointer none] 35 (0, 0)), (b3, .cells #[I 0] 26 (0, 0))]) (fun b hb => by simp at hb; rcases hb with rfl | rfl | rfl | rfl <;> exact .inr (by simp)) (⟨entB bs pre.length, es3, cl2, _, rfl, by rw [upd_upd] at hL3; exact hL3, by rw [List.length_append, List.length_singleton, rowsB_succ]; exact rel_snoc hrel1 _ (upto_last (upto_next hup1 hlk (.inl (by omega)))), by rw [List.length_append]; exact upto_next hup1 hlk (.inl (by omega)), .inr (by simp)⟩)
          ·
            refine ws_callp rfl rfl rfl rfl rfl (En.go) (fun w hp hn ho => (entry_ret g _ 41 cs E fr _ hBx (by omega) w (hp.mono (by simp))).mono (fun _ h => h) (fun v w1 _ h => by rw [h, hent, hlst, decide_eq_false (show ¬ (byteAt bs (4 + 41 * pre.length + 40) ≤ 3 ∧ checkE (entB bs pre.length) = 0) from hlk)] : ∀ (v : Value) (w1 : World), Only [] w w1 → v = _ → v = Value.tuple #[entK (entB bs pre.length), .bool false])) ?_
            refine ws_l rfl rfl rfl rfl (rd_move rfl) ?_
            refine ws_l rfl rfl rfl rfl (rd_extract rfl) ?_
            refine ws_l rfl rfl rfl rfl (rd_extract rfl) ?_
            refine ws_alloc rfl rfl rfl ?_
            intro b7 hb7
            refine ws_store rfl rfl rfl rfl (by first | exact .inl (by assumption) | exact .inr (by simp)) (fun _ h _ => by first | (cases h; done) | exact List.mem_cons_of_mem _ h | exact List.mem_cons_of_mem _ (List.mem_cons_of_mem _ h) | (simp at h ⊢; simp [h])) ?_
            refine ws_l rfl rfl rfl rfl (rd_assign rfl) ?_
            refine ws_nil ?_
            refine qe_then ?_
            refine wc_keep [(2, _), (3, _), (4, _), (5, _), (7, _), (8, _)] rfl ?_
            refine wc_seq ?_
            refine wc_seq ?_
            refine wc_plain [(0, .x true), (1, .x true), (2, .x true), (3, .x true), (4, .x true), (5, .x true), (6, .x true), (7, .x true), (8, .x true), (9, .x true), (10, .x true), (11, .x true), (12, .x true), (13, .x true), (14, .x true), (15, .x true)] (by kernel_rfl) ?_
            refine ws_l rfl rfl rfl rfl (rd_move rfl) ?_
            refine ws_l rfl rfl rfl rfl (rd_not rfl) ?_
            refine ws_l rfl rfl rfl rfl (rd_move rfl) ?_
            refine ws_xskip rfl rfl rfl rfl ?_
            refine ws_xskip rfl rfl rfl rfl ?_
            refine ws_xskip rfl rfl rfl rfl ?_
            refine ws_xskip rfl rfl rfl rfl ?_
            refine ws_xskip rfl rfl rfl rfl ?_
            refine ws_xskip rfl rfl rfl rfl ?_
            refine ws_xskip rfl rfl rfl rfl ?_
            refine ws_xskip rfl rfl rfl rfl ?_
            refine ws_xskip rfl rfl rfl rfl ?_
            refine ws_xskip rfl rfl rfl rfl ?_
            refine ws_xskip rfl rfl rfl rfl ?_
            refine ws_xskip rfl rfl rfl rfl ?_
            refine ws_l rfl rfl rfl rfl (rd_pick_t rfl rfl) ?_
            refine ws_nil ?_
            refine qe_then ?_
            refine wc_keep [(2, _), (3, _), (4, _), (5, _), (7, _), (56, _)] rfl ?_
            refine wc_true rfl ?_
            refine wc_seq ?_
            refine wc_plain [(0, .x true), (1, .x true)] (by kernel_rfl) ?_
            refine ws_store rfl rfl rfl rfl (by first | exact .inl (by assumption) | exact .inr (by simp)) (fun _ h _ => by first | (cases h; done) | exact List.mem_cons_of_mem _ h | exact List.mem_cons_of_mem _ (List.mem_cons_of_mem _ h) | (simp at h ⊢; simp [h])) ?_
            refine ws_store rfl rfl rfl rfl (by first | exact .inl (by assumption) | exact .inr (by simp)) (fun _ h _ => by first | (cases h; done) | exact List.mem_cons_of_mem _ h | exact List.mem_cons_of_mem _ (List.mem_cons_of_mem _ h) | (simp at h ⊢; simp [h])) ?_
            refine ws_nil ?_
            refine qe_then ?_
            refine wc_ret ?_
            refine qe_then_ret ?_
            refine qe_block_ret ?_
            exact qe_rret hrec ([(b5, Obj.cells (entC prev) 29 (0, 0)), (m, .map es1 cl1), (b2, .cells #[.pointer none] 35 (0, 0)), (b3, .cells #[I 3] 26 (0, 0))]) (fun b hb => by simp at hb; rcases hb with rfl | rfl | rfl | rfl <;> exact .inr (by simp)) (⟨prev, es1, cl1, rfl, rfl, fun h => hlk (h.2 pre.length hxk).1⟩)
        · intro D νr hD hJr hfr
          obtain ⟨prev, es1, cl1, L1, rfl, hL1, hrel1, hup1, hpv1⟩ := hJr
          rw [List.length_range] at hrel1 hup1
          refine qe_eqh (η' := (D, dblk) :: (b5, Obj.cells (entC prev) 29 (0, 0)) :: (m, .map es1 cl1) :: (b2, .cells #[.pointer none] 35 (0, 0)) :: (b3, .cells #[I 0] 26 (0, 0)) :: ((c1, Obj.cells #[.slice (some ⟨g, o4, none⟩) (n - 4) (c - 4)] 64 (0, 0)) :: (c2, .cells #[I 41] 3 (0, 0)) :: (b4, .cells #[ptr p] 35 (0, 0)) :: (p, .cells #[.map (some m), I (n4 bs 0)] 86 (0, 0)) :: (g, .cells cs E fr) :: [])) rfl ?_
          have hln1 : L1.length = cnt bs := by rw [hrel1.len, rowsB_len]
          refine qe_block ?_
          refine qe_then ?_
          refine wc_seq ?_
          refine wc_seq ?_
          refine wc_plain [(0, .x true), (1, .x true), (2, .x true), (3, .x true), (4, .x true), (5, .x true)] (by kernel_rfl) ?_
          refine ws_l rfl rfl rfl rfl (rd_load rfl) ?_
          refine ws_l rfl rfl rfl rfl (rd_nil rfl) ?_
          refine ws_l rfl rfl rfl rfl (rd_fieldAddr rfl) ?_
          refine ws_l rfl rfl rfl rfl (rd_load rfl) ?_
          refine ws_l rfl rfl rfl rfl (rd_lenmap (ek := idK) (en := entK) hL1 Try.underlying84 rfl) ?_
          refine ws_l rfl rfl rfl rfl (rd_cmp_f rfl rfl rfl (by simp only [cmpP]; unfold cnt at hln1; omega)) ?_
          refine ws_nil ?_
          refine qe_then ?_
          refine wc_keep [(2, _), (3, _), (4, _), (72, _)] rfl ?_
          refine wc_false rfl ?_
          refine wc_skip ?_
          refine qe_then ?_
          refine wc_seq ?_
          refine wc_plain [(0, .x true), (1, .x true), (2, .x true)] (by kernel_rfl) ?_
          refine ws_l rfl rfl rfl rfl (rd_load rfl) ?_
          refine ws_store rfl rfl rfl rfl (by first | exact .inl (by assumption) | exact .inr (by simp)) (fun _ h _ => by first | (cases h; done) | exact List.mem_cons_of_mem _ h | exact List.mem_cons_of_mem _ (List.mem_cons_of_mem _ h) | (simp at h ⊢; simp [h])) ?_
          refine ws_store rfl rfl rfl rfl (by first | exact .inl (by assumption) | exact .inr (by simp)) (fun _ h _ => by first | (cases h; done) | exact List.mem_cons_of_mem _ h | exact List.mem_cons_of_mem _ (List.mem_cons_of_mem _ h) | (simp at h ⊢; simp [h])) ?_
          refine ws_nil ?_
          refine qe_then ?_
          refine wc_ret ?_
          refine qe_bodyM1 rfl hD _ (.inl rfl) (res2 rfl (RV.cell rfl) (RV.cell rfl)) ?_
          exact ret_end fun w hp hn ho => .inr ⟨⟨⟨by omega, by rw [hB.len]; omega, h22⟩, hup1⟩, p, m, es1, cl1, L1, rfl, hp0, hm0, hne, hp.mono (by intro q hq; simp at hq ⊢; rcases hq with h | h <;> simp [h]), hL1, hrel1⟩
        · intro D pre rest c νr hD hxs hXr hfr
          obtain ⟨prev, es1, cl1, rfl, rfl, hnd0⟩ := hXr
          refine wc_eqh (η' := (D, dblk) :: (b5, Obj.cells (entC prev) 29 (0, 0)) :: (m, .map es1 cl1) :: (b2, .cells #[.pointer none] 35 (0, 0)) :: (b3, .cells #[I 3] 26 (0, 0)) :: ((c1, Obj.cells #[.slice (some ⟨g, o4, none⟩) (n - 4) (c - 4)] 64 (0, 0)) :: (c2, .cells #[I 41] 3 (0, 0)) :: (b4, .cells #[ptr p] 35 (0, 0)) :: (p, .cells #[.map (some m), I (n4 bs 0)] 86 (0, 0)) :: (g, .cells cs E fr) :: [])) rfl ?_
          refine wc_ret ?_
          refine qe_block_ret ?_
          refine qe_then_ret ?_
          refine qe_bodyM1 rfl hD _ (.inl rfl) (res2 rfl (RV.cell rfl) (RV.cell rfl)) ?_
          exact ret_end fun w hp hn ho => .inl ⟨hnd0, rfl⟩
      · intro h22
        refine ws_l rfl rfl rfl rfl (rd_not rfl) ?_
        refine ws_l rfl rfl rfl rfl (rd_pick_f rfl rfl) ?_
        refine ws_nil ?_
        refine qe_then ?_
        refine wc_keep [(0, _), (2, _), (3, _), (24, _)] rfl ?_
        refine wc_true rfl ?_
        refine wc_seq ?_
        refine wc_plain [(0, .x true), (1, .x true)] (by kernel_rfl) ?_
        refine ws_store rfl rfl rfl rfl (by first | exact .inl (by assumption) | exact .inr (by simp)) (fun _ h _ => by first | (cases h; done) | exact List.mem_cons_of_mem _ h | exact List.mem_cons_of_mem _ (List.mem_cons_of_mem _ h) | (simp at h ⊢; simp [h])) ?_
        refine ws_store rfl rfl rfl rfl (by first | exact .inl (by assumption) | exact .inr (by simp)) (fun _ h _ => by first | (cases h; done) | exact List.mem_cons_of_mem _ h | exact List.mem_cons_of_mem _ (List.mem_cons_of_mem _ h) | (simp at h ⊢; simp [h])) ?_
        refine ws_nil ?_
        refine qe_then ?_
        refine wc_ret ?_
        refine qe_then_ret ?_
        refine qe_bodyM0 _ (.inl rfl) (res2 rfl (RV.cell rfl) (RV.cell rfl)) ?_
        exact ret_end fun w hp hn ho => .inl ⟨fun h => by obtain ⟨⟨e1, e2, e3⟩, e5⟩ := h; have e4 := hB.len; first | omega | (rw [e3] at h22; cases h22), rfl⟩
set_option maxRecDepth 100000 in
set_option maxHeartbeats 1000000 in
theorem decode_refshort (A : Option Addr) (n c : Nat) (hn : n < 4) (w : World) : Ret Try.prog 32 [.slice A n c] w [] (fun v _ => v = .tuple #[.slice none 0 0, I 0, I 3]) := by
  refine enter (n := 104) (args := [.slice A n c]) [] [] Try.func32 rfl rfl rfl (HpOK.nil w) (by simp) ?_
  refine wc_seq ?_
  refine wc_plain [(0, .x true), (1, .x true), (2, .x true)] (by kernel_rfl) ?_
  refine ws_l rfl rfl rfl rfl (rd_assign rfl) ?_
  refine ws_l rfl rfl rfl rfl (rd_assign rfl) ?_
  refine ws_l rfl rfl rfl rfl (rd_assign rfl) ?_
  refine ws_nil ?_
  refine qe_then ?_
  refine wc_seq ?_
  refine wc_seq ?_
  refine wc_plain [(0, .x true), (1, .x true), (2, .x true), (3, .x true), (4, .x true), (5, .x true), (6, .x true), (7, .x true), (8, .x true), (9, .x true), (10, .x true), (11, .x true), (12, .x true), (13, .x true), (14, .x true)] (by kernel_rfl) ?_
  refine ws_l rfl rfl rfl rfl (rd_move rfl) ?_
  refine ws_l rfl rfl rfl rfl (rd_len rfl Try.underlying64) ?_
  refine ws_l rfl rfl rfl rfl (rd_cmp_t rfl rfl rfl (by simp only [cmpP]; omega)) ?_
  refine ws_l rfl rfl rfl rfl (rd_move rfl) ?_
  refine ws_xskip rfl rfl rfl rfl ?_
  refine ws_xskip rfl rfl rfl rfl ?_
  refine ws_xskip rfl rfl rfl rfl ?_
  refine ws_xskip rfl rfl rfl rfl ?_
  refine ws_l rfl rfl rfl rfl (rd_pick_t rfl rfl) ?_
  refine ws_l rfl rfl rfl rfl (rd_move rfl) ?_
  refine ws_xskip rfl rfl rfl rfl ?_
  refine ws_xskip rfl rfl rfl rfl ?_
  refine ws_xskip rfl rfl rfl rfl ?_
  refine ws_xskip rfl rfl rfl rfl ?_
  refine ws_l rfl rfl rfl rfl (rd_pick_t rfl rfl) ?_
  refine ws_nil ?_
  refine qe_then ?_
  refine wc_keep [(0, _), (2, _), (3, _), (4, _), (22, _)] rfl ?_
  refine wc_true rfl ?_
  refine wc_seq ?_
  refine wc_plain [(0, .x true), (1, .x true), (2, .x true)] (by kernel_rfl) ?_
  refine ws_l rfl rfl rfl rfl (rd_assign rfl) ?_
  refine ws_l rfl rfl rfl rfl (rd_assign rfl) ?_
  refine ws_l rfl rfl rfl rfl (rd_assign rfl) ?_
  refine ws_nil ?_
  refine qe_then ?_
  refine wc_ret ?_
  refine qe_then_ret ?_
  refine qe_body _ (.inl rfl) (res3 rfl (RV.tmp rfl) (RV.tmp rfl) (RV.tmp rfl)) ?_
  exact ret_end fun w hp hn ho => rfl
set_option maxRecDepth 100000 in
set_option maxHeartbeats 4000000 in
theorem decode_ref (g o n c : Nat) (cs : Array Value) (E : TypeId) (fr : Nat × Nat) (bs : List UInt8) (hB : BytesAt cs o n bs) (hnc : n ≤ c) (hn0 : n ≤ 40000000) (w : World) (hη : HpOK [(g, .cells cs E fr)] w) : Ret Try.prog 32 [.slice (some ⟨g, o, none⟩) n c] w [] (fun v w' => (¬ decOK bs ∧ v = .tuple #[.slice none 0 0, I 0, I 3]) ∨ (decOK bs ∧ ∃ (v5 : Value) (ν5 : Heap), v = .tuple #[v5, I (n4 bs 0), I 0] ∧ OwnR w.heap.size 24 36 v5 ν5 (rowsB bs (cnt bs)).length ((rowsB bs (cnt bs)).flatMap entL) ∧ HpOK ν5 w')) := by
  have hBl := hB.len
  refine enter (n := 104) (args := [.slice (some ⟨g, o, none⟩) n c]) [] [(g, .cells cs E fr)] Try.func32 rfl rfl rfl hη (by simp) ?_
  refine wc_seq ?_
  refine wc_plain [(0, .x true), (1, .x true), (2, .x true)] (by kernel_rfl) ?_
  refine ws_l rfl rfl rfl rfl (rd_assign rfl) ?_
  refine ws_l rfl rfl rfl rfl (rd_assign rfl) ?_
  refine ws_l rfl rfl rfl rfl (rd_assign rfl) ?_
  refine ws_nil ?_
  refine qe_then ?_
  refine wc_seq ?_
  refine wc_seq ?_
  refine wc_plain [(0, .x true), (1, .x true), (2, .x true), (3, .x true), (4, .x true), (5, .x true), (6, .x true), (7, .x true), (8, .x true), (9, .x true), (10, .x true), (11, .x true), (12, .x true), (13, .x true), (14, .x true)] (by kernel_rfl) ?_
  refine ws_l rfl rfl rfl rfl (rd_move rfl) ?_
  refine ws_l rfl rfl rfl rfl (rd_len rfl Try.underlying64) ?_
  refine ws_lcmp rfl rfl rfl (rfl) (rfl) (rfl) ?_ ?_
  · intro h10
    refine ws_l rfl rfl rfl rfl (rd_move rfl) ?_
    refine ws_xskip rfl rfl rfl rfl ?_
    refine ws_xskip rfl rfl rfl rfl ?_
    refine ws_xskip rfl rfl rfl rfl ?_
    refine ws_xskip rfl rfl rfl rfl ?_
    refine ws_l rfl rfl rfl rfl (rd_pick_t rfl rfl) ?_
    refine ws_l rfl rfl rfl rfl (rd_move rfl) ?_
    refine ws_xskip rfl rfl rfl rfl ?_
    refine ws_xskip rfl rfl rfl rfl ?_
    refine ws_xskip rfl rfl rfl rfl ?_
    refine ws_xskip rfl rfl rfl rfl ?_
    refine ws_l rfl rfl rfl rfl (rd_pick_t rfl rfl) ?_
    refine ws_nil ?_
    refine qe_then ?_
    refine wc_keep [(0, _), (2, _), (3, _), (4, _), (22, _)] rfl ?_
    refine wc_true rfl ?_
    refine wc_seq ?_
    refine wc_plain [(0, .x true), (1, .x true), (2, .x true)] (by kernel_rfl) ?_
    refine ws_l rfl rfl rfl rfl (rd_assign rfl) ?_
    refine ws_l rfl rfl rfl rfl (rd_assign rfl) ?_
    refine ws_l rfl rfl rfl rfl (rd_assign rfl) ?_
    refine ws_nil ?_
    refine qe_then ?_
    refine wc_ret ?_
    refine qe_then_ret ?_
    refine qe_body _ (.inl rfl) (res3 rfl (RV.tmp rfl) (RV.tmp rfl) (RV.tmp rfl)) ?_
    exact ret_end fun w hp hn ho => .inl ⟨fun h => by obtain ⟨⟨e1, e2, e3⟩, e5⟩ := h; first | omega | (rw [e3] at h20; cases h20), rfl⟩
  · intro h10
    refine ws_l rfl rfl rfl rfl (rd_move rfl) ?_
    refine ws_l rfl rfl rfl rfl (rd_move rfl) ?_
    refine ws_l rfl rfl rfl rfl (rd_len rfl Try.underlying64) ?_
    refine ws_l rfl rfl rfl rfl (rd_rem ((n % 41 : Nat) : Int) rfl rfl (by decide) (rem41 _)) ?_
    refine ws_lcmp rfl rfl rfl (rfl) (rfl) (rfl) ?_ ?_
    · intro h15
      refine ws_l rfl rfl rfl rfl (rd_pick_f rfl rfl) ?_
      refine ws_l rfl rfl rfl rfl (rd_move rfl) ?_
      refine ws_xskip rfl rfl rfl rfl ?_
      refine ws_xskip rfl rfl rfl rfl ?_
      refine ws_xskip rfl rfl rfl rfl ?_
      refine ws_xskip rfl rfl rfl rfl ?_
      refine ws_l rfl rfl rfl rfl (rd_pick_t rfl rfl) ?_
      refine ws_nil ?_
      refine qe_then ?_
      refine wc_keep [(0, _), (2, _), (3, _), (4, _), (22, _)] rfl ?_
      refine wc_true rfl ?_
      refine wc_seq ?_
      refine wc_plain [(0, .x true), (1, .x true), (2, .x true)] (by kernel_rfl) ?_
      refine ws_l rfl rfl rfl rfl (rd_assign rfl) ?_
      refine ws_l rfl rfl rfl rfl (rd_assign rfl) ?_
      refine ws_l rfl rfl rfl rfl (rd_assign rfl) ?_
      refine ws_nil ?_
      refine qe_then ?_
      refine wc_ret ?_
      refine qe_then_ret ?_
      refine qe_body _ (.inl rfl) (res3 rfl (RV.tmp rfl) (RV.tmp rfl) (RV.tmp rfl)) ?_
      exact ret_end fun w hp hn ho => .inl ⟨fun h => by obtain ⟨⟨e1, e2, e3⟩, e5⟩ := h; first | omega | (rw [e3] at h20; cases h20), rfl⟩
    · intro h15
      refine ws_l rfl rfl rfl rfl (rd_pick_f rfl rfl) ?_
      refine ws_l rfl rfl rfl rfl (rd_move rfl) ?_
      refine ws_l rfl rfl rfl rfl (rd_move rfl) ?_
      refine ws_callp rfl rfl rfl rfl rfl (En.go) (fun w hp hn ho => number_ref g o n c cs E fr bs hB (by omega) w (hp.mono (by simp))) ?_
      refine ws_callb (minuteB _) rfl rfl rfl rfl rfl (En.go) (fun w hp hn ho => minute_ref _ w) ?_ ?_
      · intro h20
        refine ws_l rfl rfl rfl rfl (rd_not rfl) ?_
        refine ws_l rfl rfl rfl rfl (rd_pick_f rfl rfl) ?_
        refine ws_nil ?_
        refine qe_then ?_
        refine wc_keep [(0, _), (2, _), (3, _), (4, _), (22, _)] rfl ?_
        refine wc_false rfl ?_
        refine wc_skip ?_
        refine qe_then ?_
        refine wc_seq ?_
        refine wc_plain [(0, .x true)] (by kernel_rfl) ?_
        refine ws_l rfl rfl rfl rfl (rd_assign rfl) ?_
        refine ws_nil ?_
        refine qe_then ?_
        refine wc_seq ?_
        refine wc_seq ?_
        refine wc_plain [(0, .x true)] (by kernel_rfl) ?_
        refine ws_l rfl rfl rfl rfl (rd_assign rfl) ?_
        refine ws_nil ?_
        refine qe_then ?_
        refine wc_block ?_
        refine wc_loop (fun mz ac w1 => ∃ (j : Nat) (v5 : Value) (ν5 : Heap), mz = cnt bs - j ∧ (j ≤ cnt bs) ∧ (upto bs j) ∧ (OwnR w.heap.size 24 36 v5 ν5 (rowsB bs j).length ((rowsB bs j).flatMap entL)) ∧ St 104 w [] [(0, .slice (some ⟨g, o, none⟩) n c), (5, v5), (6, I (((4 + 41 * j) : Nat) : Int))] (ν5 ++ [(g, .cells cs E fr)]) ac w1) _ (fun ac w1 hs => ⟨0, .slice none 0 0, [], rfl, (by omega), (fun i hi => absurd hi (Nat.not_lt_zero i)), (OwnR.nil _ _ _), st_sub hs _ rfl⟩) ?_
        rintro _ ac1 wl1 ⟨j, v5, ν5, rfl, hj, hup5, hown5, hs1⟩
        refine wc_at hs1 ?_
        refine wc_seq ?_
        refine wc_seq ?_
        refine wc_plain [(0, .x true), (1, .x true), (2, .x true), (3, .x true)] (by kernel_rfl) ?_
        refine ws_l rfl rfl rfl rfl (rd_move rfl) ?_
        refine ws_l rfl rfl rfl rfl (rd_move rfl) ?_
        refine ws_l rfl rfl rfl rfl (rd_len rfl Try.underlying64) ?_
        refine ws_lcmp rfl rfl rfl (rfl) (rfl) (rfl) ?_ ?_
        · intro h26
          have hjc : j < cnt bs := by unfold cnt; omega
          have hxn : 4 + 41 * j + 41 ≤ n := by unfold cnt at hjc; omega
          refine ws_nil ?_
          refine qe_then ?_
          refine wc_true rfl ?_
          refine wc_skip ?_
          refine qe_then ?_
          refine wc_seq ?_
          refine wc_block ?_
          refine wc_seq ?_
          refine wc_plain [(0, .x true)] (by kernel_rfl) ?_
          refine ws_alloc rfl rfl rfl ?_
          intro b7 hb7
          refine ws_nil ?_
          refine qe_then ?_
          refine wc_seq ?_
          refine wc_drawn mixedT _ (fun _ h => h) [(0, .r), (1, .r), (2, .r), (3, .r), (4, .r), (5, .r), (6, .r), (7, .x true)] (by kernel_rfl) ?_
          refine ws_r rfl rfl rfl rfl (rd_fieldAddr rfl) ?_
          refine ws_r rfl rfl rfl rfl (rd_sliceArr rfl Try.underlying22 rfl Try.sizeOf5) ?_
          refine ws_r rfl rfl rfl rfl (rd_move rfl) ?_
          refine ws_r rfl rfl rfl rfl (rd_move rfl) ?_
          refine ws_r rfl rfl rfl rfl (rd_move rfl) ?_
          refine ws_r rfl rfl rfl rfl (rd_arith (((4 + 41 * j) + 32 : Nat) : Int) rfl rfl rfl (by rw [wrap_i64 _ (by omega) (by omega)]; omega)) ?_
          refine ws_r rfl rfl rfl rfl (rd_sliceLH (i := (4 + 41 * j)) (j := (4 + 41 * j) + 32) (o + ((4 + 41 * j))) 32 Try.underlying64 rfl rfl rfl Try.sizeOf5 (by omega) (by omega) (by rw [if_neg (by omega)]; omega) (by omega)) ?_
          refine ws_late rfl ?_
          refine ws_copy (news := (idC (idAt bs (4 + 41 * j))).toList) (cur' := entC ⟨idAt bs (4 + 41 * j), 0, 0, 0, false⟩) rfl rfl rfl rfl rfl Try.underlying64 rfl (by simp [idC_size]) (fun i v hi => by have hi2 := (List.getElem?_eq_some_iff.1 hi).1; rw [Array.length_toList, idC_size] at hi2; rw [Array.getElem?_toList, idAt_at _ _ i hi2] at hi; rw [Nat.add_assoc, bytes_get hB ((4 + 41 * j) + i) (by omega)]; exact hi) (idC_one _) (by simp [entC_size, idC_size]) (sp4 (idAt bs (4 + 41 * j)) #[I 0, I 0, I 0, .bool false]).symm (.inl (by assumption)) (fun _ h _ => by first | (cases h; done) | skip) ?_
          refine ws_nil ?_
          refine qe_then ?_
          refine wc_seq ?_
          refine wc_drawn mixedT _ (fun _ h => h) [(0, .r), (1, .r), (2, .r), (3, .r), (4, .r), (5, .r), (7, .r), (8, .r), (9, .r), (10, .r), (11, .r), (12, .r), (6, .x false), (13, .x true), (14, .x true), (15, .x true), (16, .x true), (17, .x true)] (by kernel_rfl) ?_
          refine ws_r rfl rfl rfl rfl (rd_move rfl) ?_
          refine ws_r rfl rfl rfl rfl (rd_move rfl) ?_
          refine ws_r rfl rfl rfl rfl (rd_arith (((4 + 41 * j) + 32 : Nat) : Int) rfl rfl rfl (by rw [wrap_i64 _ (by omega) (by omega)]; omega)) ?_
          refine ws_r rfl rfl rfl rfl (rd_move rfl) ?_
          refine ws_r rfl rfl rfl rfl (rd_arith (((4 + 41 * j) + 36 : Nat) : Int) rfl rfl rfl (by rw [wrap_i64 _ (by omega) (by omega)]; omega)) ?_
          refine ws_r rfl rfl rfl rfl (rd_sliceLH (i := (4 + 41 * j) + 32) (j := (4 + 41 * j) + 36) (o + ((4 + 41 * j) + 32)) 4 Try.underlying64 rfl rfl rfl Try.sizeOf5 (by omega) (by omega) (by rw [if_neg (by omega)]; omega) (by omega)) ?_
          refine ws_r rfl rfl rfl rfl (rd_move rfl) ?_
          refine ws_r rfl rfl rfl rfl (rd_move rfl) ?_
          refine ws_r rfl rfl rfl rfl (rd_arith (((4 + 41 * j) + 36 : Nat) : Int) rfl rfl rfl (by rw [wrap_i64 _ (by omega) (by omega)]; omega)) ?_
          refine ws_r rfl rfl rfl rfl (rd_move rfl) ?_
          refine ws_r rfl rfl rfl rfl (rd_arith (((4 + 41 * j) + 40 : Nat) : Int) rfl rfl rfl (by rw [wrap_i64 _ (by omega) (by omega)]; omega)) ?_
          refine ws_r rfl rfl rfl rfl (rd_sliceLH (i := (4 + 41 * j) + 36) (j := (4 + 41 * j) + 40) (o + ((4 + 41 * j) + 36)) 4 Try.underlying64 rfl rfl rfl Try.sizeOf5 (by omega) (by omega) (by rw [if_neg (by omega)]; omega) (by omega)) ?_
          refine ws_callp rfl rfl rfl rfl rfl (En.go) (fun w hp hn ho => (number_ref g (o + ((4 + 41 * j) + 32)) 4 _ cs E fr _ (bytes_sub hB ((4 + 41 * j) + 32) 4 (by omega)) (by omega) w (hp.mono (by simp))).mono (fun _ h => h) (fun v w1 _ h => by rw [h, n4_take (by omega), n4_drop] : ∀ v w1, Only [] w w1 → v = _ → v = I (n4 bs ((4 + 41 * j) + 32)))) ?_
          refine ws_late rfl ?_
          refine ws_callp rfl rfl rfl rfl rfl (En.go) (fun w hp hn ho => (number_ref g (o + ((4 + 41 * j) + 36)) 4 _ cs E fr _ (bytes_sub hB ((4 + 41 * j) + 36) 4 (by omega)) (by omega) w (hp.mono (by simp))).mono (fun _ h => h) (fun v w1 _ h => by rw [h, n4_take (by omega), n4_drop] : ∀ v w1, Only [] w w1 → v = _ → v = I (n4 bs ((4 + 41 * j) + 36)))) ?_
          refine ws_l rfl rfl rfl rfl (rd_fieldAddr rfl) ?_
          refine ws_store rfl rfl rfl rfl (by first | exact .inl (by assumption) | exact .inr (by simp)) (fun _ h _ => by first | (cases h; done) | exact List.mem_cons_of_mem _ h | exact List.mem_cons_of_mem _ (List.mem_cons_of_mem _ h) | (simp at h ⊢; simp [h])) ?_
          refine ws_l rfl rfl rfl rfl (rd_fieldAddr rfl) ?_
          refine ws_store rfl rfl rfl rfl (by first | exact .inl (by assumption) | exact .inr (by simp)) (fun _ h _ => by first | (cases h; done) | exact List.mem_cons_of_mem _ h | exact List.mem_cons_of_mem _ (List.mem_cons_of_mem _ h) | (simp at h ⊢; simp [h])) ?_
          refine ws_nil ?_
          refine qe_then ?_
          refine wc_seq ?_
          refine wc_drawn mixedT [(g, .cells cs E fr)] (by simp) [(0, .r), (1, .r), (2, .r), (3, .r), (4, .r), (5, .r), (6, .r), (7, .r), (8, .r), (9, .r), (10, .r), (11, .r), (12, .r), (13, .r), (14, .x false), (15, .x true), (16, .x true)] (by kernel_rfl) ?_
          refine ws_r rfl rfl rfl rfl (rd_move rfl) ?_
          refine ws_r rfl rfl rfl rfl (rd_move rfl) ?_
          refine ws_r rfl rfl rfl rfl (rd_arith (((4 + 41 * j) + 40 : Nat) : Int) rfl rfl rfl (by rw [wrap_i64 _ (by omega) (by omega)]; omega)) ?_
          have hgb : GetAt cs (o + ((4 + 41 * j) + 40)) (.int .u8 ((byteAt bs ((4 + 41 * j) + 40) : Nat) : Int)) := ⟨bytes_get hB _ (by omega)⟩
          have hlb := byteAt_lt bs ((4 + 41 * j) + 40)
          refine ws_r rfl rfl rfl rfl (rd_index (o + ((4 + 41 * j) + 40)) rfl rfl Try.underlying64 Try.sizeOf5 ⟨by omega, by omega⟩ (by omega)) ?_
          refine ws_r rfl rfl rfl rfl (rd_load rfl) ?_
          refine ws_r rfl rfl rfl rfl (rd_conv rfl (run_conv_int ((byteAt bs ((4 + 41 * j) + 40) : Nat) : Int) Try.underlying5 Try.underlying3 (wrap_i64 _ (by omega) (by omega)))) ?_
          refine ws_r rfl rfl rfl rfl (rd_rem ((byteAt bs ((4 + 41 * j) + 40) % 2 : Nat) : Int) rfl rfl (by decide) (by rfl)) ?_
          refine ws_r rfl rfl rfl rfl (rd_move rfl) ?_
          refine ws_r rfl rfl rfl rfl (rd_move rfl) ?_
          refine ws_r rfl rfl rfl rfl (rd_arith (((4 + 41 * j) + 40 : Nat) : Int) rfl rfl rfl (by rw [wrap_i64 _ (by omega) (by omega)]; omega)) ?_
          refine ws_r rfl rfl rfl rfl (rd_index (o + ((4 + 41 * j) + 40)) rfl rfl Try.underlying64 Try.sizeOf5 ⟨by omega, by omega⟩ (by omega)) ?_
          refine ws_r rfl rfl rfl rfl (rd_load rfl) ?_
          by_cases hb3 : byteAt bs ((4 + 41 * j) + 40) ≤ 3
          ·
            refine ws_r rfl rfl rfl rfl (rd_cmp (decide (byteAt bs ((4 + 41 * j) + 40) / 2 % 2 = 1)) rfl rfl (by simp only [cmpB, Option.some.injEq, decide_eq_decide]; omega)) ?_
            refine ws_r rfl rfl rfl rfl (rd_fieldAddr rfl) ?_
            refine ws_store rfl rfl rfl rfl (.inl (by assumption)) (fun q h _ => by simp at h ⊢; simp [h]) ?_
            refine ws_late rfl ?_
            refine ws_l rfl rfl rfl rfl (rd_fieldAddr rfl) ?_
            refine ws_store rfl rfl rfl rfl (by first | exact .inl (by assumption) | exact .inr (by simp)) (fun _ h _ => by first | (cases h; done) | exact List.mem_cons_of_mem _ h | exact List.mem_cons_of_mem _ (List.mem_cons_of_mem _ h) | (simp at h ⊢; simp [h])) ?_
            refine ws_nil ?_
            refine qe_then ?_
            refine wc_seq ?_
            refine wc_seq ?_
            refine wc_drawn mixedT _ (fun _ h => h) [(0, .r), (1, .r), (2, .r), (3, .r), (4, .r), (5, .r), (6, .r), (7, .r), (8, .x false), (9, .r), (10, .r), (11, .r), (12, .r), (13, .r), (14, .r), (15, .r), (16, .r), (17, .r), (18, .r), (19, .r), (20, .r), (21, .r), (22, .r), (23, .r), (24, .r), (25, .x true), (26, .x true), (27, .x true), (28, .x true)] (by kernel_rfl) ?_
            refine ws_r rfl rfl rfl rfl (rd_move rfl) ?_
            refine ws_r rfl rfl rfl rfl (rd_move rfl) ?_
            refine ws_r rfl rfl rfl rfl (rd_arith (((4 + 41 * j) + 40 : Nat) : Int) rfl rfl rfl (by rw [wrap_i64 _ (by omega) (by omega)]; omega)) ?_
            refine ws_r rfl rfl rfl rfl (rd_index (o + ((4 + 41 * j) + 40)) rfl rfl Try.underlying64 Try.sizeOf5 ⟨by omega, by omega⟩ (by omega)) ?_
            refine ws_r rfl rfl rfl rfl (rd_load rfl) ?_
            refine ws_r rfl rfl rfl rfl (rd_cmp_f rfl rfl rfl (by simp only [cmpP]; omega)) ?_
            refine ws_r rfl rfl rfl rfl (rd_move rfl) ?_
            refine ws_r rfl rfl rfl rfl (rd_load rfl) ?_
            refine ws_callp rfl rfl rfl rfl rfl (En.go) (fun w hp hn ho => check_ref (entB bs j) w) ?_
            refine ws_rcmp rfl rfl rfl (rfl) (rfl) (rfl) ?_ ?_
            · intro h77
              refine ws_r rfl rfl rfl rfl (rd_pick_f rfl rfl) ?_
              refine ws_r rfl rfl rfl rfl (rd_move rfl) ?_
              refine ws_rskip rfl rfl rfl rfl ?_
              refine ws_rskip rfl rfl rfl rfl ?_
              refine ws_rskip rfl rfl rfl rfl ?_
              refine ws_rskip rfl rfl rfl rfl ?_
              refine ws_rskip rfl rfl rfl rfl ?_
              refine ws_rskip rfl rfl rfl rfl ?_
              refine ws_rskip rfl rfl rfl rfl ?_
              refine ws_rskip rfl rfl rfl rfl ?_
              refine ws_rskip rfl rfl rfl rfl ?_
              refine ws_rskip rfl rfl rfl rfl ?_
              refine ws_rskip rfl rfl rfl rfl ?_
              refine ws_rskip rfl rfl rfl rfl ?_
              refine ws_rskip rfl rfl rfl rfl ?_
              refine ws_late rfl ?_
              refine ws_xskip rfl rfl rfl rfl ?_
              refine ws_xskip rfl rfl rfl rfl ?_
              refine ws_xskip rfl rfl rfl rfl ?_
              refine ws_l rfl rfl rfl rfl (rd_pick_t rfl rfl) ?_
              refine ws_nil ?_
              refine qe_then ?_
              refine wc_true rfl ?_
              refine wc_seq ?_
              refine wc_plain [(0, .x true), (1, .x true), (2, .x true)] (by kernel_rfl) ?_
              refine ws_l rfl rfl rfl rfl (rd_assign rfl) ?_
              refine ws_l rfl rfl rfl rfl (rd_assign rfl) ?_
              refine ws_l rfl rfl rfl rfl (rd_assign rfl) ?_
              refine ws_nil ?_
              refine qe_then ?_
              refine wc_ret ?_
              refine qe_then_ret ?_
              refine qe_block_ret ?_
              refine qe_then_ret ?_
              refine qe_then_ret ?_
              refine qe_block_ret ?_
              refine qe_then_ret ?_
              refine qe_body _ (.inl rfl) (res3 rfl (RV.tmp rfl) (RV.tmp rfl) (RV.tmp rfl)) ?_
              exact ret_end fun w hp hn ho => .inl ⟨fun h => by have := (h.2 j hjc).1.2; exact h77 this, rfl⟩
            · intro h77
              refine ws_r rfl rfl rfl rfl (rd_pick_f rfl rfl) ?_
              refine ws_r rfl rfl rfl rfl (rd_move rfl) ?_
              refine ws_r rfl rfl rfl rfl (rd_move rfl) ?_
              refine ws_r rfl rfl rfl rfl (rd_lenO hown5 rfl Try.underlying36) ?_
              refine ws_rcmp rfl rfl rfl (rfl) (rfl) (rfl) ?_ ?_
              · intro h82
                rw [rowsB_len] at h82
                simp only [cmpP] at h82
                refine ws_r rfl rfl rfl rfl (rd_move rfl) ?_
                refine ws_r rfl rfl rfl rfl (rd_move rfl) ?_
                refine ws_r rfl rfl rfl rfl (rd_move rfl) ?_
                refine ws_r rfl rfl rfl rfl (rd_lenO hown5 rfl Try.underlying36) ?_
                refine ws_r rfl rfl rfl rfl (rd_arith ((j - 1 : Nat) : Int) rfl rfl rfl (by rw [rowsB_len, wrap_i64 _ (by omega) (by omega)]; omega)) ?_
                obtain ⟨go, capo, curo, rfl, rfl, hgo, hcapo, hcuro⟩ := OwnR.opened hown5 (by rw [rowsB_len]; omega)
                have hz : (rowsB bs j)[j - 1]? = some (entB bs (j - 1)) := by simp only [rowsB, List.getElem?_map]; rw [List.getElem?_range (by omega)]; rfl
                have atz := at_row (rows := rowsB bs j) hcuro hz
                refine ws_r rfl rfl rfl rfl (rd_ix (j := j - 1) rfl rfl Try.underlying36 Try.sizeOf24 (by rw [rowsB_len]; omega)) ?_
                refine ws_r rfl rfl rfl rfl (rd_fieldAddr rfl) ?_
                refine ws_r rfl rfl rfl rfl (rd_load rfl) ?_
                refine ws_r rfl rfl rfl rfl (rd_fieldAddr rfl) ?_
                refine ws_r rfl rfl rfl rfl (rd_load rfl) ?_
                refine ws_late rfl ?_
                refine ws_callb (decide (idLt _ _)) rfl rfl rfl rfl rfl (En.go) (fun w hp hn ho => before_ref _ _ w) ?_ ?_
                · intro h93
                  refine ws_l rfl rfl rfl rfl (rd_not rfl) ?_
                  refine ws_l rfl rfl rfl rfl (rd_pick_t rfl rfl) ?_
                  refine ws_l rfl rfl rfl rfl (rd_pick_f rfl rfl) ?_
                  refine ws_nil ?_
                  refine qe_then ?_
                  refine wc_false rfl ?_
                  refine wc_skip ?_
                  refine qe_then ?_
                  refine wc_plain [(0, .x true), (1, .x true), (2, .x true), (3, .x true), (4, .x true)] (by kernel_rfl) ?_
                  refine ws_l rfl rfl rfl rfl (rd_move rfl) ?_
                  refine ws_l rfl rfl rfl rfl (rd_load rfl) ?_
                  refine ws_buildSlice rfl rfl rfl rfl ?_
                  intro b99 hb99
                  have hup2 := upto_next hup5 ⟨hb3, by omega⟩ (.inr (of_decide_eq_true h93))
                  have hrl5 := rowsB_len bs j
                  refine ws_append rfl rfl rfl rfl rfl hown5 (by simp [entC_size]) (entC_one _) (by simp only [maxLen]; omega) (by omega) (fun _ _ _ h => by first | (cases h; done) | skip) ?_
                  intro v5' ν5' hown5'
                  refine ws_l rfl rfl rfl rfl (rd_assign rfl) ?_
                  refine ws_nil ?_
                  refine qe_block ?_
                  refine qe_then ?_
                  refine wc_plain [(0, .x true), (1, .x true), (2, .x true)] (by kernel_rfl) ?_
                  refine ws_l rfl rfl rfl rfl (rd_move rfl) ?_
                  refine ws_l rfl rfl rfl rfl (rd_arith ((4 + 41 * (j + 1) : Nat) : Int) rfl rfl rfl (by rw [wrap_i64 _ (by omega) (by omega)]; omega)) ?_
                  refine ws_l rfl rfl rfl rfl (rd_assign rfl) ?_
                  refine ws_nil ?_
                  exact qe_loop fun ac2 w2 hs2 => ⟨_, by omega, j + 1, v5', ν5', rfl, (by omega), (hup2), (by rw [rowsB_succ]; exact Row.app (ys := [entB bs j]) hown5' rfl (show (entC (entB bs j)).toList = [entB bs j].flatMap entL by simp)), st_sub hs2 _ rfl⟩
                · intro h93
                  refine ws_l rfl rfl rfl rfl (rd_not rfl) ?_
                  refine ws_l rfl rfl rfl rfl (rd_pick_t rfl rfl) ?_
                  refine ws_l rfl rfl rfl rfl (rd_pick_f rfl rfl) ?_
                  refine ws_nil ?_
                  refine qe_then ?_
                  refine wc_true rfl ?_
                  refine wc_seq ?_
                  refine wc_plain [(0, .x true), (1, .x true), (2, .x true)] (by kernel_rfl) ?_
                  refine ws_l rfl rfl rfl rfl (rd_assign rfl) ?_
                  refine ws_l rfl rfl rfl rfl (rd_assign rfl) ?_
                  refine ws_l rfl rfl rfl rfl (rd_assign rfl) ?_
                  refine ws_nil ?_
                  refine qe_then ?_
                  refine wc_ret ?_
                  refine qe_then_ret ?_
                  refine qe_block_ret ?_
                  refine qe_then_ret ?_
                  refine qe_then_ret ?_
                  refine qe_block_ret ?_
                  refine qe_then_ret ?_
                  refine qe_body _ (.inl rfl) (res3 rfl (RV.tmp rfl) (RV.tmp rfl) (RV.tmp rfl)) ?_
                  exact ret_end fun w hp hn ho => .inl ⟨fun h => by rcases (h.2 j hjc).2 with h0 | h0; omega; exact of_decide_eq_false h93 h0, rfl⟩
              · intro h82
                rw [rowsB_len] at h82
                simp only [cmpP] at h82
                refine ws_r rfl rfl rfl rfl (rd_move rfl) ?_
                refine ws_rskip rfl rfl rfl rfl ?_
                refine ws_rskip rfl rfl rfl rfl ?_
                refine ws_rskip rfl rfl rfl rfl ?_
                refine ws_rskip rfl rfl rfl rfl ?_
                refine ws_rskip rfl rfl rfl rfl ?_
                refine ws_rskip rfl rfl rfl rfl ?_
                refine ws_rskip rfl rfl rfl rfl ?_
                refine ws_rskip rfl rfl rfl rfl ?_
                refine ws_rskip rfl rfl rfl rfl ?_
                refine ws_late rfl ?_
                refine ws_xskip rfl rfl rfl rfl ?_
                refine ws_xskip rfl rfl rfl rfl ?_
                refine ws_l rfl rfl rfl rfl (rd_pick_f rfl rfl) ?_
                refine ws_l rfl rfl rfl rfl (rd_pick_f rfl rfl) ?_
                refine ws_nil ?_
                refine qe_then ?_
                refine wc_false rfl ?_
                refine wc_skip ?_
                refine qe_then ?_
                refine wc_plain [(0, .x true), (1, .x true), (2, .x true), (3, .x true), (4, .x true)] (by kernel_rfl) ?_
                refine ws_l rfl rfl rfl rfl (rd_move rfl) ?_
                refine ws_l rfl rfl rfl rfl (rd_load rfl) ?_
                refine ws_buildSlice rfl rfl rfl rfl ?_
                intro b99 hb99
                have hup2 := upto_next hup5 ⟨hb3, by omega⟩ (.inl (by omega))
                have hrl5 := rowsB_len bs j
                refine ws_append rfl rfl rfl rfl rfl hown5 (by simp [entC_size]) (entC_one _) (by simp only [maxLen]; omega) (by omega) (fun _ _ _ h => by first | (cases h; done) | skip) ?_
                intro v5' ν5' hown5'
                refine ws_l rfl rfl rfl rfl (rd_assign rfl) ?_
                refine ws_nil ?_
                refine qe_block ?_
                refine qe_then ?_
                refine wc_plain [(0, .x true), (1, .x true), (2, .x true)] (by kernel_rfl) ?_
                refine ws_l rfl rfl rfl rfl (rd_move rfl) ?_
                refine ws_l rfl rfl rfl rfl (rd_arith ((4 + 41 * (j + 1) : Nat) : Int) rfl rfl rfl (by rw [wrap_i64 _ (by omega) (by omega)]; omega)) ?_
                refine ws_l rfl rfl rfl rfl (rd_assign rfl) ?_
                refine ws_nil ?_
                exact qe_loop fun ac2 w2 hs2 => ⟨_, by omega, j + 1, v5', ν5', rfl, (by omega), (hup2), (by rw [rowsB_succ]; exact Row.app (ys := [entB bs j]) hown5' rfl (show (entC (entB bs j)).toList = [entB bs j].flatMap entL by simp)), st_sub hs2 _ rfl⟩
          ·
            refine ws_r rfl rfl rfl rfl (rd_cmp _ rfl rfl rfl) ?_
            refine ws_r rfl rfl rfl rfl (rd_fieldAddr rfl) ?_
            refine ws_store rfl rfl rfl rfl (.inl (by assumption)) (fun q h _ => by simp at h ⊢; simp [h]) ?_
            refine ws_late rfl ?_
            refine ws_l rfl rfl rfl rfl (rd_fieldAddr rfl) ?_
            refine ws_store rfl rfl rfl rfl (by first | exact .inl (by assumption) | exact .inr (by simp)) (fun _ h _ => by first | (cases h; done) | exact List.mem_cons_of_mem _ h | exact List.mem_cons_of_mem _ (List.mem_cons_of_mem _ h) | (simp at h ⊢; simp [h])) ?_
            refine ws_nil ?_
            refine qe_then ?_
            refine wc_seq ?_
            refine wc_seq ?_
            refine wc_drawn mixedT _ (fun _ h => h) [(0, .r), (1, .r), (2, .r), (3, .r), (4, .r), (5, .r), (6, .r), (7, .r), (8, .x false), (9, .r), (10, .r), (11, .r), (12, .r), (13, .r), (14, .r), (15, .r), (16, .r), (17, .r), (18, .r), (19, .r), (20, .r), (21, .r), (22, .r), (23, .r), (24, .r), (25, .x true), (26, .x true), (27, .x true), (28, .x true)] (by kernel_rfl) ?_
            refine ws_r rfl rfl rfl rfl (rd_move rfl) ?_
            refine ws_r rfl rfl rfl rfl (rd_move rfl) ?_
            refine ws_r rfl rfl rfl rfl (rd_arith (((4 + 41 * j) + 40 : Nat) : Int) rfl rfl rfl (by rw [wrap_i64 _ (by omega) (by omega)]; omega)) ?_
            refine ws_r rfl rfl rfl rfl (rd_index (o + ((4 + 41 * j) + 40)) rfl rfl Try.underlying64 Try.sizeOf5 ⟨by omega, by omega⟩ (by omega)) ?_
            refine ws_r rfl rfl rfl rfl (rd_load rfl) ?_
            refine ws_r rfl rfl rfl rfl (rd_cmp_t rfl rfl rfl (by simp only [cmpP]; omega)) ?_
            refine ws_r rfl rfl rfl rfl (rd_move rfl) ?_
            refine ws_rskip rfl rfl rfl rfl ?_
            refine ws_xskip rfl rfl rfl rfl ?_
            refine ws_rskip rfl rfl rfl rfl ?_
            refine ws_r rfl rfl rfl rfl (rd_pick_t rfl rfl) ?_
            refine ws_r rfl rfl rfl rfl (rd_move rfl) ?_
            refine ws_rskip rfl rfl rfl rfl ?_
            refine ws_rskip rfl rfl rfl rfl ?_
            refine ws_rskip rfl rfl rfl rfl ?_
            refine ws_rskip rfl rfl rfl rfl ?_
            refine ws_rskip rfl rfl rfl rfl ?_
            refine ws_rskip rfl rfl rfl rfl ?_
            refine ws_rskip rfl rfl rfl rfl ?_
            refine ws_rskip rfl rfl rfl rfl ?_
            refine ws_rskip rfl rfl rfl rfl ?_
            refine ws_rskip rfl rfl rfl rfl ?_
            refine ws_rskip rfl rfl rfl rfl ?_
            refine ws_rskip rfl rfl rfl rfl ?_
            refine ws_rskip rfl rfl rfl rfl ?_
            refine ws_late rfl ?_
            refine ws_xskip rfl rfl rfl rfl ?_
            refine ws_xskip rfl rfl rfl rfl ?_
            refine ws_xskip rfl rfl rfl rfl ?_
            refine ws_l rfl rfl rfl rfl (rd_pick_t rfl rfl) ?_
            refine ws_nil ?_
            refine qe_then ?_
            refine wc_true rfl ?_
            refine wc_seq ?_
            refine wc_plain [(0, .x true), (1, .x true), (2, .x true)] (by kernel_rfl) ?_
            refine ws_l rfl rfl rfl rfl (rd_assign rfl) ?_
            refine ws_l rfl rfl rfl rfl (rd_assign rfl) ?_
            refine ws_l rfl rfl rfl rfl (rd_assign rfl) ?_
            refine ws_nil ?_
            refine qe_then ?_
            refine wc_ret ?_
            refine qe_then_ret ?_
            refine qe_block_ret ?_
            refine qe_then_ret ?_
            refine qe_then_ret ?_
            refine qe_block_ret ?_
            refine qe_then_ret ?_
            refine qe_body _ (.inl rfl) (res3 rfl (RV.tmp rfl) (RV.tmp rfl) (RV.tmp rfl)) ?_
            exact ret_end fun w hp hn ho => .inl ⟨fun h => hb3 (h.2 j hjc).1.1, rfl⟩
        · intro h26
          have hjc : j = cnt bs := by unfold cnt at hj ⊢; omega
          refine ws_nil ?_
          refine qe_then ?_
          refine wc_false rfl ?_
          refine wc_exit ?_
          refine qe_then_exit ?_
          refine qe_then_exit ?_
          refine qe_block_exit ?_
          refine qe_then ?_
          refine wc_keep [(0, _), (5, _)] rfl ?_
          refine wc_seq ?_
          refine wc_plain [(0, .x true), (1, .x true), (2, .x true), (3, .x true), (4, .x true), (5, .x true)] (by kernel_rfl) ?_
          refine ws_l rfl rfl rfl rfl (rd_move rfl) ?_
          refine ws_l rfl rfl rfl rfl (rd_move rfl) ?_
          refine ws_callp rfl rfl rfl rfl rfl (En.go) (fun w hp hn ho => number_ref g o n c cs E fr bs hB (by omega) w (hp.mono (by simp))) ?_
          refine ws_l rfl rfl rfl rfl (rd_assign rfl) ?_
          refine ws_l rfl rfl rfl rfl (rd_assign rfl) ?_
          refine ws_l rfl rfl rfl rfl (rd_assign rfl) ?_
          refine ws_nil ?_
          refine qe_then ?_
          refine wc_keep [(2, _), (3, _), (4, _)] rfl ?_
          refine wc_ret ?_
          refine qe_body _ (.inl rfl) (res3 rfl (RV.tmp rfl) (RV.tmp rfl) (RV.tmp rfl)) ?_
          exact ret_end fun w hp hn ho => .inr ⟨⟨⟨by omega, by rw [hBl]; omega, h20⟩, by rw [hjc] at hup5; exact hup5⟩, v5, ν5, rfl, by rw [hjc] at hown5; exact hown5, hp.mono (fun _ h => List.mem_append_left _ h)⟩
      · intro h20
        refine ws_l rfl rfl rfl rfl (rd_not rfl) ?_
        refine ws_l rfl rfl rfl rfl (rd_pick_f rfl rfl) ?_
        refine ws_nil ?_
        refine qe_then ?_
        refine wc_keep [(0, _), (2, _), (3, _), (4, _), (22, _)] rfl ?_
        refine wc_true rfl ?_
        refine wc_seq ?_
        refine wc_plain [(0, .x true), (1, .x true), (2, .x true)] (by kernel_rfl) ?_
        refine ws_l rfl rfl rfl rfl (rd_assign rfl) ?_
        refine ws_l rfl rfl rfl rfl (rd_assign rfl) ?_
        refine ws_l rfl rfl rfl rfl (rd_assign rfl) ?_
        refine ws_nil ?_
        refine qe_then ?_
        refine wc_ret ?_
        refine qe_then_ret ?_
        refine qe_body _ (.inl rfl) (res3 rfl (RV.tmp rfl) (RV.tmp rfl) (RV.tmp rfl)) ?_
        exact ret_end fun w hp hn ho => .inl ⟨fun h => by obtain ⟨⟨e1, e2, e3⟩, e5⟩ := h; first | omega | (rw [e3] at h20; cases h20), rfl⟩

end Go.Proofs.Ytegjmmjjchpeoaa
