/- Walks: the callers of walk. No conditions. -/
import Derived.Test.YtheioljidangkaaGreatKey
namespace Go.Proofs.YtheioljidangkaaGreat
open Go Go.RowKit Go.Sx
set_option linter.unusedSimpArgs false
set_option linter.unusedVariables false

set_option maxRecDepth 100000 in
set_option maxHeartbeats 1000000 in
theorem chain1_ret (t : Nat) (pre : List KK) (x : KK) (hpl : pre.length < 1048576) (g : GV) (νs : Heap) (hrow : keysOK g νs pre) (w : World) (hη : HpOK ((t, .cells #[g.v] 47 (0, 0)) :: νs) w) (hnd : ((((t, .cells #[g.v] 47 (0, 0)) :: νs : Heap)).map Prod.fst).Nodup) : Ret Tryz.prog 35 [kkK x, ptr t] w ((((t, .cells #[g.v] 47 (0, 0)) :: νs : Heap)).map Prod.fst) (fun u w' => u = .bool true ∧ ∃ ν', JChain t (pre ++ [x]) ν' ∧ HpOK ν' w' ∧ (ν'.map Prod.fst).Nodup ∧ ∀ b ∈ ν'.map Prod.fst, w.heap.size ≤ b ∨ b ∈ (((t, .cells #[g.v] 47 (0, 0)) :: νs : Heap)).map Prod.fst) := by
  refine enter (n := 8) (args := [kkK x, ptr t]) ((((t, .cells #[g.v] 47 (0, 0)) :: νs : Heap)).map Prod.fst) ((t, .cells #[g.v] 47 (0, 0)) :: νs) Tryz.func35 rfl rfl rfl hη hnd ?_
  refine wc_seq ?_
  refine wc_plain [(0, .x true), (1, .x true)] (by kernel_rfl) ?_
  refine ws_box rfl rfl rfl rfl ?_
  intro b2 hb2
  refine ws_l rfl rfl rfl rfl (rd_assign rfl) ?_
  refine ws_nil ?_
  refine qe_then ?_
  refine wc_seq ?_
  refine wc_plain [(0, .x true), (1, .x true), (2, .x true), (3, .x true), (4, .x true)] (by kernel_rfl) ?_
  refine ws_l rfl rfl rfl rfl (rd_load rfl) ?_
  refine ws_l rfl rfl rfl rfl (rd_load rfl) ?_
  refine ws_buildSlice rfl rfl rfl rfl ?_
  intro b6 hb6
  refine ws_appendB (base := 0) rfl rfl rfl rfl rfl hrow (by simp [kkC_size]) (kkC_one x) (Nat.zero_le _) (fun b hb => .inr (List.mem_cons_of_mem _ hb)) (by simp only [maxLen]; omega) (by omega) (fun _ _ _ h => by first | (cases h; done) | skip) ?_
  intro v4 ν4 hown4 hfar4
  obtain ⟨g4, rfl, -⟩ := OwnR.gv hown4
  have hrow4 : keysOK g4 ν4 (pre ++ [x]) := Row.app (enc := kkL) (ys := [x]) hown4 rfl (by simp)
  refine ws_store rfl rfl rfl rfl (by first | exact .inl (by assumption) | exact .inr (by simp)) (fun _ h _ => by first | (cases h; done) | exact List.mem_cons_of_mem _ h | exact List.mem_cons_of_mem _ (List.mem_cons_of_mem _ h) | (simp at h ⊢; simp [h])) ?_
  refine ws_nil ?_
  refine qe_then ?_
  refine wc_keep [(3, _)] rfl ?_
  refine wc_seq ?_
  refine wc_plain [(0, .x true)] (by kernel_rfl) ?_
  refine ws_l rfl rfl rfl rfl (rd_assign rfl) ?_
  refine ws_nil ?_
  refine qe_then ?_
  refine wc_ret ?_
  refine qe_body _ (.inl rfl) (res1 rfl (RV.tmp rfl)) ?_
  refine ret_end fun w hp hn ho => ⟨rfl, (t, .cells #[g4.v] 47 (0, 0)) :: ν4, ⟨g4, ν4, hrow4, rfl⟩, (hp.mono SubH.mem), SubH.nd hn, fun b hb => ?_⟩
  rcases List.mem_cons.1 hb with rfl | hb
  · exact .inr (by simp)
  · exact (hfar4 b hb).imp (fun h => h) (List.mem_cons_of_mem _)
theorem isVisit_chain (t : Nat) : IsVisit 35 #[ptr t] [] (JChain t) (fun _ _ => true) := ⟨En.go, fun pre x ν w hpl hJ hp hn => by
  obtain ⟨g, νs, hrow, rfl⟩ := hJ
  rw [List.append_nil] at hp hn
  exact chain1_ret t pre x (by omega) g νs hrow w hp hn⟩
set_option maxRecDepth 100000 in
set_option maxHeartbeats 1000000 in
theorem key1_ret (number : Int) (bn bo bf : Nat) (pre : List KK) (x : KK) (w : World) (hη : HpOK ([(bo, .cells (kkC ((keyAt number pre).getD kk0)) 39 (0, 0)), (bf, .cells #[.bool (keyAt number pre).isSome] 4 (0, 0))] ++ [(bn, .cells #[I number] 3 (0, 0))]) w) (hnd : (([(bo, .cells (kkC ((keyAt number pre).getD kk0)) 39 (0, 0)), (bf, .cells #[.bool (keyAt number pre).isSome] 4 (0, 0))] ++ [(bn, .cells #[I number] 3 (0, 0))] : Heap).map Prod.fst).Nodup) : Ret Tryz.prog 31 [kkK x, ptr bn, ptr bo, ptr bf] w (([(bo, .cells (kkC ((keyAt number pre).getD kk0)) 39 (0, 0)), (bf, .cells #[.bool (keyAt number pre).isSome] 4 (0, 0))] : Heap).map Prod.fst) (fun u w' => u = .bool (goKey number pre x) ∧ ∃ ν', JKey number bo bf (pre ++ [x]) ν' ∧ HpOK ν' w' ∧ (ν'.map Prod.fst).Nodup ∧ ∀ b ∈ ν'.map Prod.fst, w.heap.size ≤ b ∨ b ∈ (([(bo, .cells (kkC ((keyAt number pre).getD kk0)) 39 (0, 0)), (bf, .cells #[.bool (keyAt number pre).isSome] 4 (0, 0))] : Heap)).map Prod.fst) := by
  refine enter (n := 13) (args := [kkK x, ptr bn, ptr bo, ptr bf]) (([(bo, .cells (kkC ((keyAt number pre).getD kk0)) 39 (0, 0)), (bf, .cells #[.bool (keyAt number pre).isSome] 4 (0, 0))] : Heap).map Prod.fst) [(bo, .cells (kkC ((keyAt number pre).getD kk0)) 39 (0, 0)), (bf, .cells #[.bool (keyAt number pre).isSome] 4 (0, 0)), (bn, .cells #[I number] 3 (0, 0))] Tryz.func31 rfl rfl rfl hη hnd ?_
  refine wc_seq ?_
  refine wc_plain [(0, .x true), (1, .x true)] (by kernel_rfl) ?_
  refine ws_box rfl rfl rfl rfl ?_
  intro b4 hb4
  refine ws_l rfl rfl rfl rfl (rd_assign rfl) ?_
  refine ws_nil ?_
  refine qe_then ?_
  refine wc_seq ?_
  refine wc_seq ?_
  refine wc_plain [(0, .x true), (1, .x true), (2, .x true), (3, .x true)] (by kernel_rfl) ?_
  refine ws_l rfl rfl rfl rfl (rd_fieldAddr rfl) ?_
  refine ws_l rfl rfl rfl rfl (rd_load rfl) ?_
  refine ws_l rfl rfl rfl rfl (rd_load rfl) ?_
  refine ws_lcmp rfl rfl rfl (rfl) (rfl) (rfl) ?_ ?_
  · intro h9
    have hx : x.n = number := by simpa [cmpP] using h9
    refine ws_nil ?_
    refine qe_then ?_
    refine wc_keep [(2, _), (3, _), (4, _), (5, _), (9, _)] rfl ?_
    refine wc_true rfl ?_
    refine wc_plain [(0, .x true), (1, .x true), (2, .x true)] (by kernel_rfl) ?_
    refine ws_l rfl rfl rfl rfl (rd_load rfl) ?_
    refine ws_store rfl rfl rfl rfl (by first | exact .inl (by assumption) | exact .inr (by simp)) (fun _ h _ => by first | (cases h; done) | exact List.mem_cons_of_mem _ h | exact List.mem_cons_of_mem _ (List.mem_cons_of_mem _ h) | (simp at h ⊢; simp [h])) ?_
    refine ws_store rfl rfl rfl rfl (by first | exact .inl (by assumption) | exact .inr (by simp)) (fun _ h _ => by first | (cases h; done) | exact List.mem_cons_of_mem _ h | exact List.mem_cons_of_mem _ (List.mem_cons_of_mem _ h) | (simp at h ⊢; simp [h])) ?_
    refine ws_nil ?_
    refine qe_then ?_
    refine wc_seq ?_
    refine wc_plain [(0, .x true), (1, .x true), (2, .x true)] (by kernel_rfl) ?_
    refine ws_l rfl rfl rfl rfl (rd_load rfl) ?_
    refine ws_l rfl rfl rfl rfl (rd_not rfl) ?_
    refine ws_l rfl rfl rfl rfl (rd_assign rfl) ?_
    refine ws_nil ?_
    refine qe_then ?_
    refine wc_keep [(5, _)] rfl ?_
    refine wc_ret ?_
    refine qe_body _ (.inl rfl) (res1 rfl (RV.tmp rfl)) ?_
    exact ret_end fun w hp hn ho => ⟨by simp [goKey, keyAt_snoc, *], _, rfl, by simp only [keyAt_snoc, if_pos hx, Option.getD_some, Option.isSome_some]; exact (hp.mono SubH.mem), by simp only [List.map_cons, List.map_nil]; exact SubH.nd (η' := [(bo, .cells (kkC x) 39 (0, 0)), (bf, .cells #[.bool true] 4 (0, 0))]) hn, fun b hb => .inr hb⟩
  · intro h9
    have hx : ¬ x.n = number := by simpa [cmpP] using h9
    refine ws_nil ?_
    refine qe_then ?_
    refine wc_keep [(2, _), (3, _), (4, _), (5, _), (9, _)] rfl ?_
    refine wc_false rfl ?_
    refine wc_skip ?_
    refine qe_then ?_
    refine wc_seq ?_
    refine wc_plain [(0, .x true), (1, .x true), (2, .x true)] (by kernel_rfl) ?_
    refine ws_l rfl rfl rfl rfl (rd_load rfl) ?_
    refine ws_l rfl rfl rfl rfl (rd_not rfl) ?_
    refine ws_l rfl rfl rfl rfl (rd_assign rfl) ?_
    refine ws_nil ?_
    refine qe_then ?_
    refine wc_keep [(5, _)] rfl ?_
    refine wc_ret ?_
    refine qe_body _ (.inl rfl) (res1 rfl (RV.tmp rfl)) ?_
    exact ret_end fun w hp hn ho => ⟨by simp [goKey, keyAt_snoc, *], _, rfl, by simp only [keyAt_snoc, if_neg hx]; exact (hp.mono SubH.mem), by simp only [List.map_cons, List.map_nil]; exact SubH.nd (η' := [(bo, .cells (kkC ((keyAt number pre).getD kk0)) 39 (0, 0)), (bf, .cells #[.bool (keyAt number pre).isSome] 4 (0, 0))]) hn, fun b hb => .inr hb⟩
theorem isVisit_key (number : Int) (bn bo bf : Nat) : IsVisit 31 #[ptr bn, ptr bo, ptr bf] [(bn, .cells #[I number] 3 (0, 0))] (JKey number bo bf) (goKey number) := ⟨En.go, fun pre x ν w _ hJ hp hn => by
  have hJ' := hJ
  unfold JKey at hJ'
  subst hJ'
  exact key1_ret number bn bo bf pre x w hp hn⟩
set_option maxRecDepth 100000 in
set_option maxHeartbeats 1000000 in
theorem chain_ret (p m k : Nat) (es ws : Array MapEntry) (c d : Nat) (L : RMap) (W : WMap) (own : List RK) (hL : MapIs (idK (n := 32)) rkK es c L) (hW : MapIs plE pvE ws d W) (hok : RingOK L W own) (hlen : own.length < 8192) (a : Au) (w : World) (hη : HpOK (ringP p m k :: ringT m k es c ws d (facts W)) w) (hnd : ((ringP p m k :: ringT m k es c ws d (facts W)).map Prod.fst).Nodup) : Ret Tryz.prog 14 [ptr p, idK a] w [] (fun u w' => ∃ (g : GV) (ν' : Heap), u = g.v ∧ OwnR w.heap.size 39 51 g.v ν' (chainF own a).length ((chainF own a).flatMap kkL) ∧ HpOK ν' w') := by
  refine enter (n := 13) (args := [ptr p, idK a]) [] (ringP p m k :: ringT m k es c ws d (facts W)) Tryz.func14 rfl rfl rfl hη hnd ?_
  refine wc_seq ?_
  refine wc_plain [(0, .x true), (1, .x true)] (by kernel_rfl) ?_
  refine ws_box rfl rfl rfl rfl ?_
  intro b3 hb3
  refine ws_l rfl rfl rfl rfl (rd_assign rfl) ?_
  refine ws_nil ?_
  refine qe_then ?_
  refine wc_seq ?_
  refine wc_seq ?_
  refine wc_plain [(0, .x true), (1, .x true)] (by kernel_rfl) ?_
  refine ws_l rfl rfl rfl rfl (rd_move rfl) ?_
  refine ws_l rfl rfl rfl rfl (rd_ptr_nil rfl rfl Tryz.underlying24 rfl) ?_
  refine ws_nil ?_
  refine qe_then ?_
  refine wc_false rfl ?_
  refine wc_skip ?_
  refine qe_then ?_
  refine wc_seq ?_
  refine wc_plain [(0, .x true)] (by kernel_rfl) ?_
  refine ws_alloc rfl rfl rfl ?_
  intro b5 hb5
  refine ws_nil ?_
  refine qe_then ?_
  refine wc_seq ?_
  refine wc_plain [(0, .x true), (1, .x true), (2, .x true), (3, .x true)] (by kernel_rfl) ?_
  refine ws_l rfl rfl rfl rfl (rd_move rfl) ?_
  refine ws_l rfl rfl rfl rfl (rd_load rfl) ?_
  refine ws_l rfl rfl rfl rfl (rd_mkfunc rfl rfl) ?_
  refine ws_callV [(b5, .cells #[.slice none 0 0] 47 (0, 0))] rfl rfl rfl rfl rfl (En.go) (fun w hp hn ho => walk_ret p m k es ws c d L W own hL hW hok hlen a 35 #[ptr b5] [] (JChain b5) _ (isVisit_chain b5) [(b5, .cells #[.slice none 0 0] 47 (0, 0))] ⟨gnil, [], OwnR.nil _ _ _, rfl⟩ w (hp.mono SubH.mem) (SubH.nd hn)) (fun b hb => .inl (by simp at hb; subst hb; exact hb5)) (fun hh q h => by first | (cases h; done) | exact hh q h | (simp only [List.mem_append, List.mem_cons] at h ⊢; grind) | skip) ?_
  rintro v11 wa wb hpo hon hon2 hp1 ⟨ν2, hJ2, hν2, hnd2, hfar2⟩
  rw [visit_all, List.nil_append] at hJ2
  obtain ⟨g2, νs, hrow2, rfl⟩ := hJ2
  refine ⟨_, hν2, hnd2, hfar2, ?_⟩
  simp only [List.cons_append]
  replace hrow2 : OwnR w.heap.size 39 51 g2.v νs (chainF own a).length ((chainF own a).flatMap kkL) := OwnR.rebase hrow2 fun b hb => (hfar2 b (List.mem_cons_of_mem _ hb)).elim (Nat.le_trans hon.size) (fun h => by simp at h; subst h; exact hb5)
  refine ws_nil ?_
  refine qe_then ?_
  refine wc_keep [(4, _), (5, _)] rfl ?_
  refine wc_seq ?_
  refine wc_plain [(0, .x true), (1, .x true)] (by kernel_rfl) ?_
  refine ws_l rfl rfl rfl rfl (rd_load rfl) ?_
  refine ws_l rfl rfl rfl rfl (rd_assign rfl) ?_
  refine ws_nil ?_
  refine qe_then ?_
  refine wc_ret ?_
  refine qe_body _ (.inl rfl) (res1 rfl (RV.tmp rfl)) ?_
  exact ret_end fun w hp hn ho => ⟨g2, νs, rfl, hrow2, (hp.mono SubH.mem)⟩
set_option maxRecDepth 100000 in
set_option maxHeartbeats 1000000 in
theorem key_ret (p m k : Nat) (es ws : Array MapEntry) (c d : Nat) (L : RMap) (W : WMap) (own : List RK) (hL : MapIs (idK (n := 32)) rkK es c L) (hW : MapIs plE pvE ws d W) (hok : RingOK L W own) (hlen : own.length < 8192) (a : Au) (number : Int) (w : World) (hη : HpOK (ringP p m k :: ringT m k es c ws d (facts W)) w) (hnd : ((ringP p m k :: ringT m k es c ws d (facts W)).map Prod.fst).Nodup) : Ret Tryz.prog 10 [ptr p, idK a, I number] w [] (fun u _ => u = .tuple #[kkK ((keyF own a number).getD kk0), .bool (keyF own a number).isSome]) := by
  refine enter (n := 19) (args := [ptr p, idK a, I number]) [] (ringP p m k :: ringT m k es c ws d (facts W)) Tryz.func10 rfl rfl rfl hη hnd ?_
  refine wc_seq ?_
  refine wc_plain [(0, .x true), (1, .x true), (2, .x true), (3, .x true)] (by kernel_rfl) ?_
  refine ws_box rfl rfl rfl rfl ?_
  intro b4 hb4
  refine ws_box rfl rfl rfl rfl ?_
  intro b5 hb5
  refine ws_alloc rfl rfl rfl ?_
  intro b6 hb6
  refine ws_l rfl rfl rfl rfl (rd_assign rfl) ?_
  refine ws_nil ?_
  refine qe_then ?_
  refine wc_seq ?_
  refine wc_seq ?_
  refine wc_plain [(0, .x true), (1, .x true)] (by kernel_rfl) ?_
  refine ws_l rfl rfl rfl rfl (rd_move rfl) ?_
  refine ws_l rfl rfl rfl rfl (rd_ptr_nil rfl rfl Tryz.underlying24 rfl) ?_
  refine ws_nil ?_
  refine qe_then ?_
  refine wc_false rfl ?_
  refine wc_skip ?_
  refine qe_then ?_
  refine wc_seq ?_
  refine wc_plain [(0, .x true)] (by kernel_rfl) ?_
  refine ws_alloc rfl rfl rfl ?_
  intro b8 hb8
  refine ws_nil ?_
  refine qe_then ?_
  refine wc_seq ?_
  refine wc_plain [(0, .x true), (1, .x true)] (by kernel_rfl) ?_
  refine ws_alloc rfl rfl rfl ?_
  intro b9 hb9
  refine ws_store rfl rfl rfl rfl (by first | exact .inl (by assumption) | exact .inr (by simp)) (fun _ h _ => by first | (cases h; done) | exact List.mem_cons_of_mem _ h | exact List.mem_cons_of_mem _ (List.mem_cons_of_mem _ h) | (simp at h ⊢; simp [h])) ?_
  refine ws_nil ?_
  refine qe_then ?_
  refine wc_seq ?_
  refine wc_plain [(0, .x true), (1, .x true), (2, .x true), (3, .x true)] (by kernel_rfl) ?_
  refine ws_l rfl rfl rfl rfl (rd_move rfl) ?_
  refine ws_l rfl rfl rfl rfl (rd_load rfl) ?_
  refine ws_l rfl rfl rfl rfl (rd_mkfunc rfl rfl) ?_
  refine ws_callV [(b8, .cells (kkC kk0) 39 (0, 0)), (b9, .cells #[.bool false] 4 (0, 0))] rfl rfl rfl rfl rfl (En.go) (fun w hp hn ho => walk_ret p m k es ws c d L W own hL hW hok hlen a 31 #[ptr b5, ptr b8, ptr b9] [(b5, .cells #[I number] 3 (0, 0))] (JKey number b8 b9) _ (isVisit_key number b5 b8 b9) [(b8, .cells (kkC kk0) 39 (0, 0)), (b9, .cells #[.bool false] 4 (0, 0))] rfl w (hp.mono SubH.mem) (SubH.nd hn)) (fun b hb => .inl (by simp at hb; rcases hb with rfl | rfl; exact hb8; exact hb9)) (fun hh q h => by first | (cases h; done) | exact hh q h | (simp only [List.mem_append, List.mem_cons] at h ⊢; grind) | skip) ?_
  rintro v16 wa wb hpo hon hon2 hp1 ⟨ν2, hJ2, hν2, hnd2, hfar2⟩
  unfold JKey at hJ2
  rw [key_visit number _ _ rfl, show (chainF own a).find? (fun x => decide (x.n = number)) = keyF own a number from rfl] at hJ2
  subst hJ2
  refine ⟨_, hν2, hnd2, hfar2, ?_⟩
  simp only [List.cons_append, List.nil_append]
  refine ws_nil ?_
  refine qe_then ?_
  refine wc_keep [(6, _), (7, _), (8, _), (9, _)] rfl ?_
  refine wc_seq ?_
  refine wc_drawn mixedT [(b8, .cells (kkC ((keyF own a number).getD kk0)) 39 (0, 0)), (b9, .cells #[.bool (keyF own a number).isSome] 4 (0, 0))] (fun q hq => by simp at hq ⊢; rcases hq with rfl | rfl <;> simp) [(0, .r), (1, .r), (2, .x false), (3, .x true)] (by kernel_rfl) ?_
  refine ws_r rfl rfl rfl rfl (rd_load rfl) ?_
  refine ws_r rfl rfl rfl rfl (rd_load rfl) ?_
  refine ws_store rfl rfl rfl rfl (by first | exact .inl (by assumption) | exact .inr (by simp)) (fun q h _ => by simp only [List.mem_cons, List.not_mem_nil, or_false] at h; rcases h with rfl | rfl <;> simp) ?_
  refine ws_late rfl ?_
  refine ws_l rfl rfl rfl rfl (rd_assign rfl) ?_
  refine ws_nil ?_
  refine qe_then ?_
  refine wc_ret ?_
  refine qe_body _ (.inl rfl) (res2 rfl (RV.cell rfl) (RV.tmp rfl)) ?_
  exact ret_end fun w hp hn ho => rfl
set_option maxRecDepth 100000 in
set_option maxHeartbeats 4000000 in
theorem judge_ret (p m k : Nat) (es ws : Array MapEntry) (c d : Nat) (L : RMap) (W : WMap) (own : List RK) (hL : MapIs (idK (n := 32)) rkK es c L) (hW : MapIs plE pvE ws d W) (hok : RingOK L W own) (hlen : own.length < 8192) (a : Au) (number : Int) (q : Pub) (leaf : Int) (i : Id) (w : World) (hη : HpOK (ringP p m k :: ringT m k es c ws d (facts W)) w) (hnd : ((ringP p m k :: ringT m k es c ws d (facts W)).map Prod.fst).Nodup) : Ret Tryz.prog 20 [ptr p, idK a, I number, pubK q, I leaf, idK i] w [] (fun u _ => u = I (judgeF own a number q leaf i)) := by
  refine enter (n := 72) (args := [ptr p, idK a, I number, pubK q, I leaf, idK i]) [] (ringP p m k :: ringT m k es c ws d (facts W)) Tryz.func20 rfl rfl rfl hη hnd ?_
  refine wc_seq ?_
  refine wc_plain [(0, .x true), (1, .x true), (2, .x true), (3, .x true)] (by kernel_rfl) ?_
  refine ws_box rfl rfl rfl rfl ?_
  intro b7 hb7
  refine ws_box rfl rfl rfl rfl ?_
  intro b9 hb9
  refine ws_box rfl rfl rfl rfl ?_
  intro b11 hb11
  refine ws_l rfl rfl rfl rfl (rd_assign rfl) ?_
  refine ws_nil ?_
  refine qe_then ?_
  refine wc_seq ?_
  refine wc_seq ?_
  refine wc_plain [(0, .x true), (1, .x true)] (by kernel_rfl) ?_
  refine ws_l rfl rfl rfl rfl (rd_move rfl) ?_
  refine ws_l rfl rfl rfl rfl (rd_ptr_nil rfl rfl Tryz.underlying24 rfl) ?_
  refine ws_nil ?_
  refine qe_then ?_
  refine wc_false rfl ?_
  refine wc_skip ?_
  refine qe_then ?_
  refine wc_keep [(0, _), (2, _), (4, _), (7, _), (9, _), (11, _), (12, _)] rfl ?_
  refine wc_seq ?_
  refine wc_plain [(0, .x true), (1, .x true), (2, .x true), (3, .x true), (4, .x true), (5, .x true), (6, .x true), (7, .x true), (8, .x true), (9, .x true)] (by kernel_rfl) ?_
  refine ws_l rfl rfl rfl rfl (rd_move rfl) ?_
  refine ws_l rfl rfl rfl rfl (rd_load rfl) ?_
  refine ws_l rfl rfl rfl rfl (rd_move rfl) ?_
  refine ws_callp rfl rfl rfl rfl rfl (En.go) (fun w hp hn ho => key_ret p m k es ws c d L W own hL hW hok hlen a number w (hp.mono SubH.mem) (SubH.nd hn)) ?_
  cases hk : keyF own a number with
  | none =>
    simp only [Option.getD_none, Option.isSome_none]
    refine ws_l rfl rfl rfl rfl (rd_move rfl) ?_
    refine ws_l rfl rfl rfl rfl (rd_extract rfl) ?_
    refine ws_l rfl rfl rfl rfl (rd_extract rfl) ?_
    refine ws_alloc rfl rfl rfl ?_
    intro b13 hb13
    refine ws_store rfl rfl rfl rfl (by first | exact .inl (by assumption) | exact .inr (by simp)) (fun _ h _ => by first | (cases h; done) | exact List.mem_cons_of_mem _ h | exact List.mem_cons_of_mem _ (List.mem_cons_of_mem _ h) | (simp at h ⊢; simp [h])) ?_
    refine ws_l rfl rfl rfl rfl (rd_assign rfl) ?_
    refine ws_nil ?_
    refine qe_then ?_
    refine wc_keep [(2, _), (4, _), (7, _), (9, _), (11, _), (12, _), (13, _), (14, _)] rfl ?_
    refine wc_seq ?_
    refine wc_block ?_
    refine wc_seq ?_
    refine wc_plain [(0, .x true), (1, .x true), (2, .x true), (3, .x true), (4, .x true), (5, .x true), (6, .x true)] (by kernel_rfl) ?_
    refine ws_l rfl rfl rfl rfl (rd_move rfl) ?_
    refine ws_l rfl rfl rfl rfl (rd_not rfl) ?_
    refine ws_l rfl rfl rfl rfl (rd_move rfl) ?_
    refine ws_l rfl rfl rfl rfl (rd_move rfl) ?_
    refine ws_lcmp rfl rfl rfl (rfl) (rfl) (rfl) ?_ ?_
    · intro h29
      refine ws_l rfl rfl rfl rfl (rd_pick_t rfl rfl) ?_
      refine ws_l rfl rfl rfl rfl (rd_assign rfl) ?_
      refine ws_nil ?_
      refine qe_then ?_
      refine wc_keep [(4, _), (7, _), (9, _), (11, _), (12, _), (13, _), (14, _), (24, _)] rfl ?_
      refine wc_true rfl ?_
      refine wc_seq ?_
      refine wc_plain [(0, .x true)] (by kernel_rfl) ?_
      refine ws_l rfl rfl rfl rfl (rd_assign rfl) ?_
      refine ws_nil ?_
      refine qe_then ?_
      refine wc_keep [(12, _)] rfl ?_
      refine wc_ret ?_
      refine qe_block_ret ?_
      refine qe_then_ret ?_
      refine qe_body _ (.inl rfl) (res1 rfl (RV.tmp rfl)) ?_
      exact ret_end fun w hp hn ho => by simp only [judgeF, hk]; (try simp only [cmpP, ne_eq, Decidable.not_not] at *); grind
    · intro h29
      refine ws_l rfl rfl rfl rfl (rd_pick_t rfl rfl) ?_
      refine ws_l rfl rfl rfl rfl (rd_assign rfl) ?_
      refine ws_nil ?_
      refine qe_then ?_
      refine wc_keep [(4, _), (7, _), (9, _), (11, _), (12, _), (13, _), (14, _), (24, _)] rfl ?_
      refine wc_false rfl ?_
      refine wc_seq ?_
      refine wc_seq ?_
      refine wc_plain [(0, .x true), (1, .x true), (2, .x true), (3, .x true), (4, .x true), (5, .x true), (6, .x true), (7, .x true), (8, .x true)] (by kernel_rfl) ?_
      refine ws_l rfl rfl rfl rfl (rd_move rfl) ?_
      refine ws_l rfl rfl rfl rfl (rd_not rfl) ?_
      refine ws_l rfl rfl rfl rfl (rd_move rfl) ?_
      refine ws_l rfl rfl rfl rfl (rd_load rfl) ?_
      refine ws_l rfl rfl rfl rfl (rd_load rfl) ?_
      refine ws_callb (decide _) rfl rfl rfl rfl rfl (En.go) (fun w hp hn ho => first_ret a q w) ?_ ?_
      · intro hof
        refine ws_l rfl rfl rfl rfl (rd_not rfl) ?_
        refine ws_l rfl rfl rfl rfl (rd_pick_t rfl rfl) ?_
        refine ws_l rfl rfl rfl rfl (rd_assign rfl) ?_
        refine ws_nil ?_
        refine qe_then ?_
        refine wc_keep [(4, _), (9, _), (11, _), (12, _), (13, _), (14, _), (31, _)] rfl ?_
        refine wc_false rfl ?_
        refine wc_plain [(0, .x true), (1, .x true), (2, .x true), (3, .x true), (4, .x true), (5, .x true), (6, .x true), (7, .x true)] (by kernel_rfl) ?_
        refine ws_l rfl rfl rfl rfl (rd_move rfl) ?_
        refine ws_l rfl rfl rfl rfl (rd_move rfl) ?_
        refine ws_xskip rfl rfl rfl rfl ?_
        refine ws_xskip rfl rfl rfl rfl ?_
        refine ws_xskip rfl rfl rfl rfl ?_
        refine ws_xskip rfl rfl rfl rfl ?_
        refine ws_l rfl rfl rfl rfl (rd_pick_f rfl rfl) ?_
        refine ws_l rfl rfl rfl rfl (rd_assign rfl) ?_
        refine ws_nil ?_
        refine qe_then ?_
        refine wc_keep [(4, _), (11, _), (12, _), (13, _), (14, _), (31, _)] rfl ?_
        refine wc_false rfl ?_
        refine wc_seq ?_
        refine wc_plain [(0, .x true), (1, .x true), (2, .x true), (3, .x true), (4, .x true), (5, .x true), (6, .x true), (7, .x true), (8, .x true), (9, .x true), (10, .x true), (11, .x true), (12, .x true), (13, .x true), (14, .x true), (15, .x true), (16, .x true), (17, .x true), (18, .x true), (19, .x true), (20, .x true), (21, .x true), (22, .x true), (23, .x true), (24, .x true)] (by kernel_rfl) ?_
        refine ws_l rfl rfl rfl rfl (rd_move rfl) ?_
        refine ws_l rfl rfl rfl rfl (rd_move rfl) ?_
        refine ws_xskip rfl rfl rfl rfl ?_
        refine ws_xskip rfl rfl rfl rfl ?_
        refine ws_xskip rfl rfl rfl rfl ?_
        refine ws_l rfl rfl rfl rfl (rd_pick_f rfl rfl) ?_
        refine ws_l rfl rfl rfl rfl (rd_move rfl) ?_
        refine ws_xskip rfl rfl rfl rfl ?_
        refine ws_xskip rfl rfl rfl rfl ?_
        refine ws_xskip rfl rfl rfl rfl ?_
        refine ws_xskip rfl rfl rfl rfl ?_
        refine ws_xskip rfl rfl rfl rfl ?_
        refine ws_xskip rfl rfl rfl rfl ?_
        refine ws_xskip rfl rfl rfl rfl ?_
        refine ws_xskip rfl rfl rfl rfl ?_
        refine ws_xskip rfl rfl rfl rfl ?_
        refine ws_xskip rfl rfl rfl rfl ?_
        refine ws_xskip rfl rfl rfl rfl ?_
        refine ws_xskip rfl rfl rfl rfl ?_
        refine ws_xskip rfl rfl rfl rfl ?_
        refine ws_xskip rfl rfl rfl rfl ?_
        refine ws_xskip rfl rfl rfl rfl ?_
        refine ws_xskip rfl rfl rfl rfl ?_
        refine ws_l rfl rfl rfl rfl (rd_pick_f rfl rfl) ?_
        refine ws_l rfl rfl rfl rfl (rd_assign rfl) ?_
        refine ws_nil ?_
        refine qe_then ?_
        refine wc_keep [(12, _), (47, _)] rfl ?_
        refine wc_false rfl ?_
        refine wc_skip ?_
        refine qe_block ?_
        refine qe_then ?_
        refine wc_seq ?_
        refine wc_plain [(0, .x true)] (by kernel_rfl) ?_
        refine ws_l rfl rfl rfl rfl (rd_assign rfl) ?_
        refine ws_nil ?_
        refine qe_then ?_
        refine wc_ret ?_
        refine qe_body _ (.inl rfl) (res1 rfl (RV.tmp rfl)) ?_
        exact ret_end fun w hp hn ho => by simp only [judgeF, hk]; (try simp only [cmpP, ne_eq, Decidable.not_not] at *); grind
      · intro hof
        refine ws_l rfl rfl rfl rfl (rd_not rfl) ?_
        refine ws_l rfl rfl rfl rfl (rd_pick_t rfl rfl) ?_
        refine ws_l rfl rfl rfl rfl (rd_assign rfl) ?_
        refine ws_nil ?_
        refine qe_then ?_
        refine wc_keep [(4, _), (9, _), (11, _), (12, _), (13, _), (14, _), (31, _)] rfl ?_
        refine wc_true rfl ?_
        refine wc_skip ?_
        refine qe_then ?_
        refine wc_true rfl ?_
        refine wc_seq ?_
        refine wc_plain [(0, .x true)] (by kernel_rfl) ?_
        refine ws_l rfl rfl rfl rfl (rd_assign rfl) ?_
        refine ws_nil ?_
        refine qe_then ?_
        refine wc_keep [(12, _)] rfl ?_
        refine wc_ret ?_
        refine qe_block_ret ?_
        refine qe_then_ret ?_
        refine qe_body _ (.inl rfl) (res1 rfl (RV.tmp rfl)) ?_
        exact ret_end fun w hp hn ho => by simp only [judgeF, hk]; (try simp only [cmpP, ne_eq, Decidable.not_not] at *); grind
  | some k0 =>
    simp only [Option.getD_some, Option.isSome_some]
    refine ws_l rfl rfl rfl rfl (rd_move rfl) ?_
    refine ws_l rfl rfl rfl rfl (rd_extract rfl) ?_
    refine ws_l rfl rfl rfl rfl (rd_extract rfl) ?_
    refine ws_alloc rfl rfl rfl ?_
    intro b13 hb13
    refine ws_store rfl rfl rfl rfl (by first | exact .inl (by assumption) | exact .inr (by simp)) (fun _ h _ => by first | (cases h; done) | exact List.mem_cons_of_mem _ h | exact List.mem_cons_of_mem _ (List.mem_cons_of_mem _ h) | (simp at h ⊢; simp [h])) ?_
    refine ws_l rfl rfl rfl rfl (rd_assign rfl) ?_
    refine ws_nil ?_
    refine qe_then ?_
    refine wc_keep [(2, _), (4, _), (7, _), (9, _), (11, _), (12, _), (13, _), (14, _)] rfl ?_
    refine wc_seq ?_
    refine wc_block ?_
    refine wc_seq ?_
    refine wc_plain [(0, .x true), (1, .x true), (2, .x true), (3, .x true), (4, .x true), (5, .x true), (6, .x true)] (by kernel_rfl) ?_
    refine ws_l rfl rfl rfl rfl (rd_move rfl) ?_
    refine ws_l rfl rfl rfl rfl (rd_not rfl) ?_
    refine ws_l rfl rfl rfl rfl (rd_move rfl) ?_
    refine ws_xskip rfl rfl rfl rfl ?_
    refine ws_xskip rfl rfl rfl rfl ?_
    refine ws_l rfl rfl rfl rfl (rd_pick_f rfl rfl) ?_
    refine ws_l rfl rfl rfl rfl (rd_assign rfl) ?_
    refine ws_nil ?_
    refine qe_then ?_
    refine wc_keep [(4, _), (7, _), (9, _), (11, _), (12, _), (13, _), (14, _), (24, _)] rfl ?_
    refine wc_false rfl ?_
    refine wc_seq ?_
    refine wc_seq ?_
    refine wc_plain [(0, .x true), (1, .x true), (2, .x true), (3, .x true), (4, .x true), (5, .x true), (6, .x true), (7, .x true), (8, .x true)] (by kernel_rfl) ?_
    refine ws_l rfl rfl rfl rfl (rd_move rfl) ?_
    refine ws_l rfl rfl rfl rfl (rd_not rfl) ?_
    refine ws_l rfl rfl rfl rfl (rd_move rfl) ?_
    refine ws_xskip rfl rfl rfl rfl ?_
    refine ws_xskip rfl rfl rfl rfl ?_
    refine ws_xskip rfl rfl rfl rfl ?_
    refine ws_xskip rfl rfl rfl rfl ?_
    refine ws_l rfl rfl rfl rfl (rd_pick_f rfl rfl) ?_
    refine ws_l rfl rfl rfl rfl (rd_assign rfl) ?_
    refine ws_nil ?_
    refine qe_then ?_
    refine wc_keep [(4, _), (9, _), (11, _), (12, _), (13, _), (14, _), (31, _)] rfl ?_
    refine wc_false rfl ?_
    refine wc_plain [(0, .x true), (1, .x true), (2, .x true), (3, .x true), (4, .x true), (5, .x true), (6, .x true), (7, .x true)] (by kernel_rfl) ?_
    refine ws_l rfl rfl rfl rfl (rd_move rfl) ?_
    refine ws_l rfl rfl rfl rfl (rd_move rfl) ?_
    refine ws_l rfl rfl rfl rfl (rd_fieldAddr rfl) ?_
    refine ws_l rfl rfl rfl rfl (rd_load rfl) ?_
    refine ws_l rfl rfl rfl rfl (rd_load rfl) ?_
    refine ws_lp _ rfl rfl rfl rfl (rd_neq35 rfl rfl) ?_ ?_
    · intro h45
      refine ws_l rfl rfl rfl rfl (rd_pick_t rfl rfl) ?_
      refine ws_l rfl rfl rfl rfl (rd_assign rfl) ?_
      refine ws_nil ?_
      refine qe_then ?_
      refine wc_keep [(4, _), (11, _), (12, _), (13, _), (14, _), (31, _)] rfl ?_
      refine wc_true rfl ?_
      refine wc_seq ?_
      refine wc_plain [(0, .x true)] (by kernel_rfl) ?_
      refine ws_l rfl rfl rfl rfl (rd_assign rfl) ?_
      refine ws_nil ?_
      refine qe_then ?_
      refine wc_keep [(12, _)] rfl ?_
      refine wc_ret ?_
      refine qe_block_ret ?_
      refine qe_then_ret ?_
      refine qe_body _ (.inl rfl) (res1 rfl (RV.tmp rfl)) ?_
      exact ret_end fun w hp hn ho => by simp only [judgeF, hk]; (try simp only [cmpP, ne_eq, Decidable.not_not] at *); grind
    · intro h45
      refine ws_l rfl rfl rfl rfl (rd_pick_t rfl rfl) ?_
      refine ws_l rfl rfl rfl rfl (rd_assign rfl) ?_
      refine ws_nil ?_
      refine qe_then ?_
      refine wc_keep [(4, _), (11, _), (12, _), (13, _), (14, _), (31, _)] rfl ?_
      refine wc_false rfl ?_
      refine wc_seq ?_
      refine wc_plain [(0, .x true), (1, .x true), (2, .x true), (3, .x true), (4, .x true), (5, .x true), (6, .x true), (7, .x true), (8, .x true), (9, .x true), (10, .x true), (11, .x true), (12, .x true), (13, .x true), (14, .x true), (15, .x true), (16, .x true), (17, .x true), (18, .x true), (19, .x true), (20, .x true), (21, .x true), (22, .x true), (23, .x true), (24, .x true)] (by kernel_rfl) ?_
      refine ws_l rfl rfl rfl rfl (rd_move rfl) ?_
      refine ws_l rfl rfl rfl rfl (rd_move rfl) ?_
      refine ws_l rfl rfl rfl rfl (rd_fieldAddr rfl) ?_
      refine ws_l rfl rfl rfl rfl (rd_load rfl) ?_
      refine ws_lcmp rfl rfl rfl (rfl) (rfl) (rfl) ?_ ?_
      · intro h52
        refine ws_l rfl rfl rfl rfl (rd_pick_t rfl rfl) ?_
        refine ws_l rfl rfl rfl rfl (rd_move rfl) ?_
        refine ws_l rfl rfl rfl rfl (rd_move rfl) ?_
        refine ws_l rfl rfl rfl rfl (rd_fieldAddr rfl) ?_
        refine ws_l rfl rfl rfl rfl (rd_load rfl) ?_
        refine ws_lcmp rfl rfl rfl (rfl) (rfl) (rfl) ?_ ?_
        · intro h58
          refine ws_l rfl rfl rfl rfl (rd_move rfl) ?_
          refine ws_xskip rfl rfl rfl rfl ?_
          refine ws_xskip rfl rfl rfl rfl ?_
          refine ws_xskip rfl rfl rfl rfl ?_
          refine ws_xskip rfl rfl rfl rfl ?_
          refine ws_xskip rfl rfl rfl rfl ?_
          refine ws_xskip rfl rfl rfl rfl ?_
          refine ws_xskip rfl rfl rfl rfl ?_
          refine ws_xskip rfl rfl rfl rfl ?_
          refine ws_xskip rfl rfl rfl rfl ?_
          refine ws_xskip rfl rfl rfl rfl ?_
          refine ws_l rfl rfl rfl rfl (rd_pick_t rfl rfl) ?_
          refine ws_l rfl rfl rfl rfl (rd_pick_t rfl rfl) ?_
          refine ws_l rfl rfl rfl rfl (rd_assign rfl) ?_
          refine ws_nil ?_
          refine qe_then ?_
          refine wc_keep [(12, _), (47, _)] rfl ?_
          refine wc_true rfl ?_
          refine wc_seq ?_
          refine wc_plain [(0, .x true)] (by kernel_rfl) ?_
          refine ws_l rfl rfl rfl rfl (rd_assign rfl) ?_
          refine ws_nil ?_
          refine qe_then ?_
          refine wc_ret ?_
          refine qe_block_ret ?_
          refine qe_then_ret ?_
          refine qe_body _ (.inl rfl) (res1 rfl (RV.tmp rfl)) ?_
          exact ret_end fun w hp hn ho => by simp only [judgeF, hk]; (try simp only [cmpP, ne_eq, Decidable.not_not] at *); grind
        · intro h58
          refine ws_l rfl rfl rfl rfl (rd_move rfl) ?_
          refine ws_l rfl rfl rfl rfl (rd_move rfl) ?_
          refine ws_l rfl rfl rfl rfl (rd_fieldAddr rfl) ?_
          refine ws_l rfl rfl rfl rfl (rd_load rfl) ?_
          refine ws_lcmp rfl rfl rfl (rfl) (rfl) (rfl) ?_ ?_
          · intro h63
            refine ws_l rfl rfl rfl rfl (rd_move rfl) ?_
            refine ws_l rfl rfl rfl rfl (rd_load rfl) ?_
            refine ws_l rfl rfl rfl rfl (rd_fieldAddr rfl) ?_
            refine ws_l rfl rfl rfl rfl (rd_load rfl) ?_
            refine ws_lp _ rfl rfl rfl rfl (rd_neid rfl rfl Tryz.underlying37 (by kernel_rfl)) ?_ ?_
            · intro h68
              refine ws_l rfl rfl rfl rfl (rd_pick_t rfl rfl) ?_
              refine ws_l rfl rfl rfl rfl (rd_pick_f rfl rfl) ?_
              refine ws_l rfl rfl rfl rfl (rd_pick_t rfl rfl) ?_
              refine ws_l rfl rfl rfl rfl (rd_assign rfl) ?_
              refine ws_nil ?_
              refine qe_then ?_
              refine wc_keep [(12, _), (47, _)] rfl ?_
              refine wc_true rfl ?_
              refine wc_seq ?_
              refine wc_plain [(0, .x true)] (by kernel_rfl) ?_
              refine ws_l rfl rfl rfl rfl (rd_assign rfl) ?_
              refine ws_nil ?_
              refine qe_then ?_
              refine wc_ret ?_
              refine qe_block_ret ?_
              refine qe_then_ret ?_
              refine qe_body _ (.inl rfl) (res1 rfl (RV.tmp rfl)) ?_
              exact ret_end fun w hp hn ho => by simp only [judgeF, hk]; (try simp only [cmpP, ne_eq, Decidable.not_not] at *); grind
            · intro h68
              refine ws_l rfl rfl rfl rfl (rd_pick_t rfl rfl) ?_
              refine ws_l rfl rfl rfl rfl (rd_pick_f rfl rfl) ?_
              refine ws_l rfl rfl rfl rfl (rd_pick_t rfl rfl) ?_
              refine ws_l rfl rfl rfl rfl (rd_assign rfl) ?_
              refine ws_nil ?_
              refine qe_then ?_
              refine wc_keep [(12, _), (47, _)] rfl ?_
              refine wc_false rfl ?_
              refine wc_skip ?_
              refine qe_block ?_
              refine qe_then ?_
              refine wc_seq ?_
              refine wc_plain [(0, .x true)] (by kernel_rfl) ?_
              refine ws_l rfl rfl rfl rfl (rd_assign rfl) ?_
              refine ws_nil ?_
              refine qe_then ?_
              refine wc_ret ?_
              refine qe_body _ (.inl rfl) (res1 rfl (RV.tmp rfl)) ?_
              exact ret_end fun w hp hn ho => by simp only [judgeF, hk]; (try simp only [cmpP, ne_eq, Decidable.not_not] at *); grind
          · intro h63
            refine ws_l rfl rfl rfl rfl (rd_move rfl) ?_
            refine ws_xskip rfl rfl rfl rfl ?_
            refine ws_xskip rfl rfl rfl rfl ?_
            refine ws_xskip rfl rfl rfl rfl ?_
            refine ws_xskip rfl rfl rfl rfl ?_
            refine ws_l rfl rfl rfl rfl (rd_pick_f rfl rfl) ?_
            refine ws_l rfl rfl rfl rfl (rd_pick_f rfl rfl) ?_
            refine ws_l rfl rfl rfl rfl (rd_pick_t rfl rfl) ?_
            refine ws_l rfl rfl rfl rfl (rd_assign rfl) ?_
            refine ws_nil ?_
            refine qe_then ?_
            refine wc_keep [(12, _), (47, _)] rfl ?_
            refine wc_false rfl ?_
            refine wc_skip ?_
            refine qe_block ?_
            refine qe_then ?_
            refine wc_seq ?_
            refine wc_plain [(0, .x true)] (by kernel_rfl) ?_
            refine ws_l rfl rfl rfl rfl (rd_assign rfl) ?_
            refine ws_nil ?_
            refine qe_then ?_
            refine wc_ret ?_
            refine qe_body _ (.inl rfl) (res1 rfl (RV.tmp rfl)) ?_
            exact ret_end fun w hp hn ho => by simp only [judgeF, hk]; (try simp only [cmpP, ne_eq, Decidable.not_not] at *); grind
      · intro h52
        refine ws_l rfl rfl rfl rfl (rd_pick_t rfl rfl) ?_
        refine ws_l rfl rfl rfl rfl (rd_move rfl) ?_
        refine ws_xskip rfl rfl rfl rfl ?_
        refine ws_xskip rfl rfl rfl rfl ?_
        refine ws_xskip rfl rfl rfl rfl ?_
        refine ws_xskip rfl rfl rfl rfl ?_
        refine ws_xskip rfl rfl rfl rfl ?_
        refine ws_xskip rfl rfl rfl rfl ?_
        refine ws_xskip rfl rfl rfl rfl ?_
        refine ws_xskip rfl rfl rfl rfl ?_
        refine ws_xskip rfl rfl rfl rfl ?_
        refine ws_xskip rfl rfl rfl rfl ?_
        refine ws_xskip rfl rfl rfl rfl ?_
        refine ws_xskip rfl rfl rfl rfl ?_
        refine ws_xskip rfl rfl rfl rfl ?_
        refine ws_xskip rfl rfl rfl rfl ?_
        refine ws_xskip rfl rfl rfl rfl ?_
        refine ws_xskip rfl rfl rfl rfl ?_
        refine ws_l rfl rfl rfl rfl (rd_pick_f rfl rfl) ?_
        refine ws_l rfl rfl rfl rfl (rd_assign rfl) ?_
        refine ws_nil ?_
        refine qe_then ?_
        refine wc_keep [(12, _), (47, _)] rfl ?_
        refine wc_false rfl ?_
        refine wc_skip ?_
        refine qe_block ?_
        refine qe_then ?_
        refine wc_seq ?_
        refine wc_plain [(0, .x true)] (by kernel_rfl) ?_
        refine ws_l rfl rfl rfl rfl (rd_assign rfl) ?_
        refine ws_nil ?_
        refine qe_then ?_
        refine wc_ret ?_
        refine qe_body _ (.inl rfl) (res1 rfl (RV.tmp rfl)) ?_
        exact ret_end fun w hp hn ho => by simp only [judgeF, hk]; (try simp only [cmpP, ne_eq, Decidable.not_not] at *); grind

end Go.Proofs.YtheioljidangkaaGreat
