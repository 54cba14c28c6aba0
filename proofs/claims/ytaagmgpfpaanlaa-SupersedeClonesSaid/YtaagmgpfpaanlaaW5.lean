/- Walks: Successors, IsWithdrawn. No conditions. -/
import Derived.Test.YtaagmgpfpaanlaaW4
namespace Go.Proofs.Ytaagmgpfpaanlaa
open Go Go.RowKit Go.Sx
set_option linter.unusedSimpArgs false
set_option linter.unusedVariables false

set_option maxRecDepth 100000 in
set_option maxHeartbeats 1000000 in
theorem succ1_ret (p m k : Nat) (es ws : Array MapEntry) (c d : Nat) (L : RMap) (W : WMap) (own : List RR) (ν : Heap) (hL : MapIs idK hrK es c L) (hW : MapIs idK wvK ws d W) (hok : SetOK ν L W own) (hlen : own.length < 8192) (bp bi : Nat) (id y : Id) (w : World) (hη : HpOK ((bp, .cells #[ptr p] 49 (0, 0)) :: (bi, .cells (idC id) 38 (0, 0)) :: setC p m k es c ws d ν) w) (hnd : (((bp, .cells #[ptr p] 49 (0, 0)) :: (bi, .cells (idC id) 38 (0, 0)) :: setC p m k es c ws d ν).map Prod.fst).Nodup) : Ret Try.prog 52 [idK y, ptr bp, ptr bi] w [] (fun v _ => v = .bool (!decide (valB (rowOf L id).r (rowOf L y).r))) := by
  refine enter (n := 19) (args := [idK y, ptr bp, ptr bi]) [] ((bp, .cells #[ptr p] 49 (0, 0)) :: (bi, .cells (idC id) 38 (0, 0)) :: setC p m k es c ws d ν) Try.func52 rfl rfl rfl hη hnd ?_
  refine wc_seq ?_
  refine wc_plain [(0, .x true), (1, .x true)] (by kernel_rfl) ?_
  refine ws_box rfl rfl rfl rfl ?_
  intro b3 hb3
  refine ws_l rfl rfl rfl rfl (rd_assign rfl) ?_
  refine ws_nil ?_
  refine qe_then ?_
  refine wc_seq ?_
  refine wc_drawn mixedT _ (fun _ h => h) [(0, .r), (1, .r), (2, .r), (3, .r), (4, .r), (5, .r), (6, .r), (7, .r), (8, .r), (9, .r), (10, .r), (11, .r), (12, .x true), (13, .x true), (14, .x true)] (by kernel_rfl) ?_
  refine ws_r rfl rfl rfl rfl (rd_load rfl) ?_
  refine ws_r rfl rfl rfl rfl (rd_nil rfl) ?_
  refine ws_r rfl rfl rfl rfl (rd_fieldAddr rfl) ?_
  refine ws_r rfl rfl rfl rfl (rd_load rfl) ?_
  refine ws_r rfl rfl rfl rfl (rd_load rfl) ?_
  refine ws_r rfl rfl rfl rfl (rd_rowOf hL rfl rfl) ?_
  refine ws_r rfl rfl rfl rfl (rd_load rfl) ?_
  refine ws_r rfl rfl rfl rfl (rd_nil rfl) ?_
  refine ws_r rfl rfl rfl rfl (rd_fieldAddr rfl) ?_
  refine ws_r rfl rfl rfl rfl (rd_load rfl) ?_
  refine ws_r rfl rfl rfl rfl (rd_load rfl) ?_
  refine ws_r rfl rfl rfl rfl (rd_rowOf hL rfl rfl) ?_
  refine ws_late rfl ?_
  refine ws_callp rfl rfl rfl rfl rfl (En.go) (fun w hp hn ho => valid_ret _ _ _ _ ν (hok.rowG _) (hok.rowG _) w (hp.mono (by intro q hq; simp [hq])) (setC_nd (hnd.sublist (List.Sublist.map _ (((List.sublist_cons_self _ _).trans (List.sublist_cons_self _ _))))))) ?_
  refine ws_l rfl rfl rfl rfl (rd_not rfl) ?_
  refine ws_l rfl rfl rfl rfl (rd_assign rfl) ?_
  refine ws_nil ?_
  refine qe_then ?_
  refine wc_keep [(4, _)] rfl ?_
  refine wc_ret ?_
  refine qe_body _ (.inl rfl) (res1 rfl (RV.tmp rfl)) ?_
  exact ret_end fun w hp hn ho => rfl
set_option maxRecDepth 100000 in
set_option maxHeartbeats 1000000 in
theorem succ2_ret (p m k : Nat) (es ws : Array MapEntry) (c d : Nat) (L : RMap) (W : WMap) (own : List RR) (ν : Heap) (hL : MapIs idK hrK es c L) (hW : MapIs idK wvK ws d W) (hok : SetOK ν L W own) (hlen : own.length < 8192) (bp : Nat) (x y : Id) (w : World) (hη : HpOK ((bp, .cells #[ptr p] 49 (0, 0)) :: setC p m k es c ws d ν) w) (hnd : (((bp, .cells #[ptr p] 49 (0, 0)) :: setC p m k es c ws d ν).map Prod.fst).Nodup) : Ret Try.prog 54 [idK x, idK y, ptr bp] w [] (fun v _ => v = I (ordF (rowOf L x).r (rowOf L y).r)) := by
  refine enter (n := 19) (args := [idK x, idK y, ptr bp]) [] ((bp, .cells #[ptr p] 49 (0, 0)) :: setC p m k es c ws d ν) Try.func54 rfl rfl rfl hη hnd ?_
  refine wc_seq ?_
  refine wc_plain [(0, .x true), (1, .x true), (2, .x true)] (by kernel_rfl) ?_
  refine ws_box rfl rfl rfl rfl ?_
  intro b3 hb3
  refine ws_box rfl rfl rfl rfl ?_
  intro b4 hb4
  refine ws_l rfl rfl rfl rfl (rd_assign rfl) ?_
  refine ws_nil ?_
  refine qe_then ?_
  refine wc_seq ?_
  refine wc_drawn mixedT _ (fun _ h => h) [(0, .r), (1, .r), (2, .r), (3, .r), (4, .r), (5, .r), (6, .r), (7, .r), (8, .r), (9, .r), (10, .r), (11, .r), (12, .x true), (13, .x true)] (by kernel_rfl) ?_
  refine ws_r rfl rfl rfl rfl (rd_load rfl) ?_
  refine ws_r rfl rfl rfl rfl (rd_nil rfl) ?_
  refine ws_r rfl rfl rfl rfl (rd_fieldAddr rfl) ?_
  refine ws_r rfl rfl rfl rfl (rd_load rfl) ?_
  refine ws_r rfl rfl rfl rfl (rd_load rfl) ?_
  refine ws_r rfl rfl rfl rfl (rd_rowOf hL rfl rfl) ?_
  refine ws_r rfl rfl rfl rfl (rd_load rfl) ?_
  refine ws_r rfl rfl rfl rfl (rd_nil rfl) ?_
  refine ws_r rfl rfl rfl rfl (rd_fieldAddr rfl) ?_
  refine ws_r rfl rfl rfl rfl (rd_load rfl) ?_
  refine ws_r rfl rfl rfl rfl (rd_load rfl) ?_
  refine ws_r rfl rfl rfl rfl (rd_rowOf hL rfl rfl) ?_
  refine ws_late rfl ?_
  refine ws_callp rfl rfl rfl rfl rfl (En.go) (fun w hp hn ho => order_ret _ _ _ _ w) ?_
  refine ws_l rfl rfl rfl rfl (rd_assign rfl) ?_
  refine ws_nil ?_
  refine qe_then ?_
  refine wc_keep [(5, _)] rfl ?_
  refine wc_ret ?_
  refine qe_body _ (.inl rfl) (res1 rfl (RV.tmp rfl)) ?_
  exact ret_end fun w hp hn ho => rfl
set_option maxRecDepth 100000 in
set_option maxHeartbeats 1000000 in
theorem wd1_ret (p m k : Nat) (es ws : Array MapEntry) (c d : Nat) (L : RMap) (W : WMap) (own : List RR) (ν : Heap) (hL : MapIs idK hrK es c L) (hW : MapIs idK wvK ws d W) (hok : SetOK ν L W own) (hlen : own.length < 8192) (bp bx : Nat) (x : RR) (g : GV) (hg : GOK ν g x.grp) (y : Id) (w : World) (hη : HpOK ((bp, .cells #[ptr p] 49 (0, 0)) :: (bx, .cells (rowC x g) 43 (0, 0)) :: setC p m k es c ws d ν) w) (hnd : (((bp, .cells #[ptr p] 49 (0, 0)) :: (bx, .cells (rowC x g) 43 (0, 0)) :: setC p m k es c ws d ν).map Prod.fst).Nodup) : Ret Try.prog 45 [idK y, ptr bp, ptr bx] w [] (fun v _ => v = .bool (decide (outB (rowOf L y).r x))) := by
  refine enter (n := 13) (args := [idK y, ptr bp, ptr bx]) [] ((bp, .cells #[ptr p] 49 (0, 0)) :: (bx, .cells (rowC x g) 43 (0, 0)) :: setC p m k es c ws d ν) Try.func45 rfl rfl rfl hη hnd ?_
  refine wc_seq ?_
  refine wc_plain [(0, .x true), (1, .x true)] (by kernel_rfl) ?_
  refine ws_box rfl rfl rfl rfl ?_
  intro b3 hb3
  refine ws_l rfl rfl rfl rfl (rd_assign rfl) ?_
  refine ws_nil ?_
  refine qe_then ?_
  refine wc_seq ?_
  refine wc_drawn mixedT _ (fun _ h => h) [(0, .r), (1, .r), (2, .r), (3, .r), (4, .r), (5, .r), (6, .r), (7, .x true), (8, .x true)] (by kernel_rfl) ?_
  refine ws_r rfl rfl rfl rfl (rd_load rfl) ?_
  refine ws_r rfl rfl rfl rfl (rd_nil rfl) ?_
  refine ws_r rfl rfl rfl rfl (rd_fieldAddr rfl) ?_
  refine ws_r rfl rfl rfl rfl (rd_load rfl) ?_
  refine ws_r rfl rfl rfl rfl (rd_load rfl) ?_
  refine ws_r rfl rfl rfl rfl (rd_rowOf hL rfl rfl) ?_
  refine ws_r rfl rfl rfl rfl (rd_load rfl) ?_
  refine ws_late rfl ?_
  refine ws_callp rfl rfl rfl rfl rfl (En.go) (fun w hp hn ho => outdoes_ret _ _ _ _ ν (hok.rowG _) hg w (hp.mono (by intro q hq; simp [hq])) (setC_nd (hnd.sublist (List.Sublist.map _ (((List.sublist_cons_self _ _).trans (List.sublist_cons_self _ _))))))) ?_
  refine ws_l rfl rfl rfl rfl (rd_assign rfl) ?_
  refine ws_nil ?_
  refine qe_then ?_
  refine wc_keep [(4, _)] rfl ?_
  refine wc_ret ?_
  refine qe_body _ (.inl rfl) (res1 rfl (RV.tmp rfl)) ?_
  exact ret_end fun w hp hn ho => rfl
theorem isDel_succ (p m k : Nat) (es ws : Array MapEntry) (c d : Nat) (L : RMap) (W : WMap) (own : List RR) (ν : Heap) (hL : MapIs idK hrK es c L) (hW : MapIs idK wvK ws d W) (hok : SetOK ν L W own) (hlen : own.length < 8192) (bp bi : Nat) (id : Id) : IsDel 52 #[ptr bp, ptr bi] ((bp, .cells #[ptr p] 49 (0, 0)) :: (bi, .cells (idC id) 38 (0, 0)) :: setC p m k es c ws d ν) (fun y => !decide (valB (rowOf L id).r (rowOf L y).r)) := ⟨En.go, fun y w hp hn => succ1_ret p m k es ws c d L W own ν hL hW hok hlen bp bi id y w hp hn⟩
theorem isDel_wd (p m k : Nat) (es ws : Array MapEntry) (c d : Nat) (L : RMap) (W : WMap) (own : List RR) (ν : Heap) (hL : MapIs idK hrK es c L) (hW : MapIs idK wvK ws d W) (hok : SetOK ν L W own) (hlen : own.length < 8192) (bp bx : Nat) (x : RR) (g : GV) (hg : GOK ν g x.grp) : IsDel 45 #[ptr bp, ptr bx] ((bp, .cells #[ptr p] 49 (0, 0)) :: (bx, .cells (rowC x g) 43 (0, 0)) :: setC p m k es c ws d ν) (fun y => decide (outB (rowOf L y).r x)) := ⟨En.go, fun y w hp hn => wd1_ret p m k es ws c d L W own ν hL hW hok hlen bp bx x g hg y w hp hn⟩
theorem isDel_drop (bi : Nat) (id : Id) : IsDel 59 #[ptr bi] [(bi, .cells (idC id) 38 (0, 0))] (fun y => decide (y = id)) := ⟨En.go, fun y w hp _ => isid_ret bi id y w hp⟩
set_option maxRecDepth 100000 in
set_option maxHeartbeats 1000000 in
theorem succ_ret (p m k : Nat) (es ws : Array MapEntry) (c d : Nat) (L : RMap) (W : WMap) (own : List RR) (ν : Heap) (hL : MapIs idK hrK es c L) (hW : MapIs idK wvK ws d W) (hok : SetOK ν L W own) (hlen : own.length < 8192) (id : Id) (w : World) (hη : HpOK (setC p m k es c ws d ν) w) (hnd : ((setC p m k es c ws d ν).map Prod.fst).Nodup) : Ret Try.prog 26 [ptr p, idK id] w [] (fun v w' => ∃ (g' : GV) (ν' : Heap), v = g'.v ∧ OwnR w.heap.size 38 32 g'.v ν' (succI own id).length (idsL (succI own id)) ∧ HpOK ν' w') := by
  refine enter (n := 23) (args := [ptr p, idK id]) [] (setC p m k es c ws d ν) Try.func26 rfl rfl rfl hη hnd ?_
  refine wc_seq ?_
  refine wc_plain [(0, .x true), (1, .x true), (2, .x true)] (by kernel_rfl) ?_
  refine ws_box rfl rfl rfl rfl ?_
  intro b2 hb2
  refine ws_box rfl rfl rfl rfl ?_
  intro b3 hb3
  refine ws_l rfl rfl rfl rfl (rd_assign rfl) ?_
  refine ws_nil ?_
  refine qe_then ?_
  refine wc_seq ?_
  refine wc_seq ?_
  refine wc_plain [(0, .x true), (1, .x true), (2, .x true), (3, .x true)] (by kernel_rfl) ?_
  refine ws_l rfl rfl rfl rfl (rd_load rfl) ?_
  refine ws_l rfl rfl rfl rfl (rd_load rfl) ?_
  refine ws_callb (decide _) rfl rfl rfl rfl rfl (En.go) (fun w hp hn ho => has_ret p m k es ws c d L W own ν hL hW hok hlen id w (hp.mono SubH.mem) hnd) ?_ ?_
  · intro hhas
    have hhas := of_decide_eq_true hhas
    obtain ⟨x, hx, rfl⟩ := hhas
    refine ws_l rfl rfl rfl rfl (rd_not rfl) ?_
    refine ws_nil ?_
    refine qe_then ?_
    refine wc_keep [(2, _), (3, _), (4, _), (9, _)] rfl ?_
    refine wc_false rfl ?_
    refine wc_skip ?_
    refine qe_then ?_
    refine wc_seq ?_
    refine wc_drawn mixedT _ (fun _ h => h) [(0, .r), (1, .r), (2, .r), (3, .r), (4, .r), (5, .r), (7, .r), (6, .x false), (8, .x true), (9, .x true)] (by kernel_rfl) ?_
    refine ws_r rfl rfl rfl rfl (rd_load rfl) ?_
    refine ws_r rfl rfl rfl rfl (rd_nil rfl) ?_
    refine ws_r rfl rfl rfl rfl (rd_fieldAddr rfl) ?_
    refine ws_r rfl rfl rfl rfl (rd_load rfl) ?_
    refine ws_r rfl rfl rfl rfl (rd_load rfl) ?_
    obtain ⟨gw, hgw, hga⟩ := hok.wait hW.keysNd x.id
    have hwl := waits_len own x.id
    refine ws_r rfl rfl rfl rfl (rd_wait hW hga rfl rfl) ?_
    refine ws_r rfl rfl rfl rfl (rd_mkfunc rfl rfl) ?_
    refine ws_call rfl rfl rfl rfl rfl (En.go) (fun w hp hn ho => idclone_ret gw.v ν _ _ hgw (by omega) w (hp.mono (by intro q hq; simp [hq])) (setC_nd hnd)) (fun _ h => by cases h) (fun hh q h => by first | (cases h; done) | exact hh q h) ?_
    rintro v16 wa wb hpo hon hon2 hp1 ⟨g1, ν1, rfl, hown1, hν1⟩
    refine ⟨ν1, hν1, hown1.nd, fun b hb => .inl (hown1.far b hb), ?_⟩
    replace hown1 := hown1.mono hon.size
    refine ws_late rfl ?_
    refine ws_callV ν1 rfl rfl rfl rfl rfl (En.go) (fun w hp hn ho => deletef_ret _ g1.v ν1 _ 52 _ _ (isDel_succ p m k es ws c d L W own ν hL hW hok hlen b2 b3 x.id) (SubH.nd hn) _ hown1 (by omega) w (hp.mono SubH.mem) (SubH.nd hn)) (fun b hb => .inl (hown1.far b hb)) (fun hh q h => by first | (cases h; done) | exact hh q h | skip) ?_
    rintro v18 wa wb hpo hon hon2 hp1 ⟨g2, ν2, rfl, hown2, hν2, hbl2⟩
    refine ⟨ν2, hν2, hown2.nd, fun b hb => .inr (hbl2 b hb), ?_⟩
    refine ws_l rfl rfl rfl rfl (rd_assign rfl) ?_
    refine ws_nil ?_
    refine qe_then ?_
    refine wc_keep [(2, _), (4, _), (5, _)] rfl ?_
    refine wc_seq ?_
    refine wc_plain [(0, .x true), (1, .x true), (2, .x true)] (by kernel_rfl) ?_
    refine ws_l rfl rfl rfl rfl (rd_move rfl) ?_
    refine ws_l rfl rfl rfl rfl (rd_mkfunc rfl rfl) ?_
    refine ws_callV ν2 rfl rfl rfl rfl rfl (En.go) (fun w hp hn ho => sort_ret (cb := #[ptr b2]) (φ := (b2, .cells #[ptr p] 49 (0, 0)) :: setC p m k es c ws d ν) (swoOrd fun y => (rowOf L y).r) En.go (fun y z w2 hw2 => succ2_ret p m k es ws c d L W own ν hL hW hok hlen b2 y z w2 hw2 (SubH.nd hn)) hown2 (by have := List.length_filter_le (fun y => !!decide (valB (rowOf L x.id).r (rowOf L y).r)) (waits own x.id); omega) w (hp.mono SubH.mem) (SubH.nd hn)) (fun b hb => .inl (hown2.far b hb)) (fun hh q h => by first | (cases h; done) | exact hh q h | skip) ?_
    rintro v21 wa wb hpo hon hon2 hp1 ⟨ν3, ys, hown3, hν3, hbl3, hperm, hpw⟩
    refine ⟨ν3, hν3, hown3.nd, fun b hb => .inr (by rw [← hbl3]; exact hb), ?_⟩
    refine ws_nil ?_
    refine qe_then ?_
    refine wc_seq ?_
    refine wc_plain [(0, .x true), (1, .x true)] (by kernel_rfl) ?_
    refine ws_l rfl rfl rfl rfl (rd_move rfl) ?_
    refine ws_l rfl rfl rfl rfl (rd_assign rfl) ?_
    refine ws_nil ?_
    refine qe_then ?_
    refine wc_keep [(4, _)] rfl ?_
    refine wc_ret ?_
    refine qe_body _ (.inl rfl) (res1 rfl (RV.tmp rfl)) ?_
    rw [hok.rowOf_eq hx] at hperm
    have hys := hok.succ hx hperm hpw
    rw [← succI_in hok.nd hx] at hys
    subst hys
    exact ret_end fun w hp hn ho => ⟨g2, ν3, rfl, hown3, hp.mono (by intro q hq; simp [hq])⟩
  · intro hhas
    have hhas := of_decide_eq_false hhas
    refine ws_l rfl rfl rfl rfl (rd_not rfl) ?_
    refine ws_nil ?_
    refine qe_then ?_
    refine wc_keep [(2, _), (3, _), (4, _), (9, _)] rfl ?_
    refine wc_true rfl ?_
    refine wc_seq ?_
    refine wc_plain [(0, .x true)] (by kernel_rfl) ?_
    refine ws_l rfl rfl rfl rfl (rd_assign rfl) ?_
    refine ws_nil ?_
    refine qe_then ?_
    refine wc_ret ?_
    refine qe_then_ret ?_
    refine qe_body _ (.inl rfl) (res1 rfl (RV.tmp rfl)) ?_
    exact ret_end fun w hp hn ho => ⟨gnil, [], rfl, by rw [succI_out hhas]; exact OwnR.nil _ _ _, HpOK.nil w⟩
theorem wd_succ {own : List RR} (hn : (own.map RR.id).Nodup) {x : RR} (hx : x ∈ own) (h : 0 < (succI own x.id).length) : wdB own x.id = true := by
  rw [succI_in hn hx, List.length_map, succR_pos] at h
  obtain ⟨y, hy, hv⟩ := h
  rw [wd_in hn hx, List.any_eq_true]
  exact ⟨y, hy, by simp [hv]⟩
theorem wd_nosucc {own : List RR} (hn : (own.map RR.id).Nodup) {x : RR} (hx : x ∈ own) (h : ¬ 0 < (succI own x.id).length) : wdB own x.id = own.any fun y => decide (outB y x) := by
  rw [succI_in hn hx, List.length_map, succR_pos] at h
  rw [wd_in hn hx, Bool.eq_iff_iff]
  simp only [List.any_eq_true, Bool.or_eq_true, decide_eq_true_eq]
  constructor
  · rintro ⟨y, hy, hv | ho⟩
    · exact absurd ⟨y, hy, hv⟩ h
    · exact ⟨y, hy, ho⟩
  · rintro ⟨y, hy, ho⟩; exact ⟨y, hy, .inr ho⟩
set_option maxRecDepth 100000 in
set_option maxHeartbeats 1000000 in
theorem wd_ret (p m k : Nat) (es ws : Array MapEntry) (c d : Nat) (L : RMap) (W : WMap) (own : List RR) (ν : Heap) (hL : MapIs idK hrK es c L) (hW : MapIs idK wvK ws d W) (hok : SetOK ν L W own) (hlen : own.length < 8192) (id : Id) (w : World) (hη : HpOK (setC p m k es c ws d ν) w) (hnd : ((setC p m k es c ws d ν).map Prod.fst).Nodup) : Ret Try.prog 21 [ptr p, idK id] w [] (fun v _ => v = .bool (wdB own id)) := by
  refine enter (n := 32) (args := [ptr p, idK id]) [] (setC p m k es c ws d ν) Try.func21 rfl rfl rfl hη hnd ?_
  refine wc_seq ?_
  refine wc_plain [(0, .x true), (1, .x true), (2, .x true)] (by kernel_rfl) ?_
  refine ws_box rfl rfl rfl rfl ?_
  intro b2 hb2
  refine ws_box rfl rfl rfl rfl ?_
  intro b3 hb3
  refine ws_l rfl rfl rfl rfl (rd_assign rfl) ?_
  refine ws_nil ?_
  refine qe_then ?_
  refine wc_seq ?_
  refine wc_seq ?_
  refine wc_plain [(0, .x true), (1, .x true), (2, .x true), (3, .x true)] (by kernel_rfl) ?_
  refine ws_l rfl rfl rfl rfl (rd_load rfl) ?_
  refine ws_l rfl rfl rfl rfl (rd_load rfl) ?_
  refine ws_callb (decide _) rfl rfl rfl rfl rfl (En.go) (fun w hp hn ho => has_ret p m k es ws c d L W own ν hL hW hok hlen id w (hp.mono SubH.mem) hnd) ?_ ?_
  · intro hhas
    have hhas := of_decide_eq_true hhas
    obtain ⟨x, hx, rfl⟩ := hhas
    refine ws_l rfl rfl rfl rfl (rd_not rfl) ?_
    refine ws_nil ?_
    refine qe_then ?_
    refine wc_keep [(2, _), (3, _), (4, _), (9, _)] rfl ?_
    refine wc_false rfl ?_
    refine wc_skip ?_
    refine qe_then ?_
    refine wc_seq ?_
    refine wc_drawn mixedT _ (fun _ h => h) [(0, .r), (1, .r), (2, .r), (3, .r), (4, .r), (5, .r), (6, .x false), (7, .x true)] (by kernel_rfl) ?_
    refine ws_r rfl rfl rfl rfl (rd_load rfl) ?_
    refine ws_r rfl rfl rfl rfl (rd_nil rfl) ?_
    refine ws_r rfl rfl rfl rfl (rd_fieldAddr rfl) ?_
    refine ws_r rfl rfl rfl rfl (rd_load rfl) ?_
    refine ws_r rfl rfl rfl rfl (rd_load rfl) ?_
    obtain ⟨gx, hlx, hgx⟩ := hok.at hx
    obtain ⟨gw, hgw, hga⟩ := hok.wait hW.keysNd x.sup
    have hwl := waits_len own x.sup
    refine ws_r rfl rfl rfl rfl (rd_row (y := ⟨x, gx⟩) hL hlx rfl rfl) ?_
    refine ws_alloc rfl rfl rfl ?_
    intro b5 hb5
    refine ws_late rfl ?_
    refine ws_store rfl rfl rfl rfl (by first | exact .inl (by assumption) | exact .inr (by simp)) (fun _ h _ => by first | (cases h; done) | exact List.mem_cons_of_mem _ h | exact List.mem_cons_of_mem _ (List.mem_cons_of_mem _ h) | (simp at h ⊢; simp [h])) ?_
    refine ws_nil ?_
    refine qe_then ?_
    refine wc_keep [(2, _), (3, _), (4, _), (5, _)] rfl ?_
    refine wc_seq ?_
    refine wc_drawn mixedT _ (fun _ h => h) [(0, .r), (1, .r), (2, .x false), (3, .r), (4, .r), (5, .r), (6, .r), (7, .r), (8, .r), (9, .r), (10, .r), (11, .r), (12, .r), (13, .r), (14, .x true), (15, .x true), (16, .x true)] (by kernel_rfl) ?_
    refine ws_r rfl rfl rfl rfl (rd_load rfl) ?_
    refine ws_r rfl rfl rfl rfl (rd_load rfl) ?_
    refine ws_call rfl rfl rfl rfl rfl (En.go) (fun w hp hn ho => succ_ret p m k es ws c d L W own ν hL hW hok hlen x.id w (hp.mono SubH.mem) hnd) (fun _ h => by cases h) (fun hh q h => by first | (cases h; done) | exact hh q h) ?_
    rintro v18 wa wb hpo hon hon2 hp1 ⟨g1, ν1, rfl, hown1, hν1⟩
    refine ⟨ν1, hν1, hown1.nd, fun b hb => .inl (hown1.far b hb), ?_⟩
    replace hown1 := hown1.mono hon.size
    refine ws_r rfl rfl rfl rfl (rd_lenO hown1 rfl Try.underlying26) ?_
    refine ws_rcmp rfl rfl rfl (rfl) (rfl) (rfl) ?_ ?_
    · intro h20
      have hw : wdB own x.id = true := wd_succ hok.nd hx (by simp only [cmpP] at h20; omega)
      refine ws_r rfl rfl rfl rfl (rd_move rfl) ?_
      refine ws_rskip rfl rfl rfl rfl ?_
      refine ws_rskip rfl rfl rfl rfl ?_
      refine ws_rskip rfl rfl rfl rfl ?_
      refine ws_rskip rfl rfl rfl rfl ?_
      refine ws_rskip rfl rfl rfl rfl ?_
      refine ws_rskip rfl rfl rfl rfl ?_
      refine ws_rskip rfl rfl rfl rfl ?_
      refine ws_rskip rfl rfl rfl rfl ?_
      refine ws_late rfl ?_
      refine ws_xskip rfl rfl rfl rfl ?_
      refine ws_l rfl rfl rfl rfl (rd_pick_t rfl rfl) ?_
      refine ws_l rfl rfl rfl rfl (rd_assign rfl) ?_
      refine ws_nil ?_
      refine qe_then ?_
      refine wc_keep [(4, _)] rfl ?_
      refine wc_ret ?_
      refine qe_body _ (.inl rfl) (res1 rfl (RV.tmp rfl)) ?_
      exact ret_end fun w hp hn ho => by rw [hw]
    · intro h20
      have hw : ¬ 0 < (succI own x.id).length := by simp only [cmpP] at h20; omega
      refine ws_r rfl rfl rfl rfl (rd_move rfl) ?_
      refine ws_r rfl rfl rfl rfl (rd_load rfl) ?_
      refine ws_r rfl rfl rfl rfl (rd_nil rfl) ?_
      refine ws_r rfl rfl rfl rfl (rd_fieldAddr rfl) ?_
      refine ws_r rfl rfl rfl rfl (rd_load rfl) ?_
      refine ws_r rfl rfl rfl rfl (rd_fieldAddr rfl) ?_
      refine ws_r rfl rfl rfl rfl (rd_load rfl) ?_
      refine ws_r rfl rfl rfl rfl (rd_wait hW hga rfl rfl) ?_
      refine ws_r rfl rfl rfl rfl (rd_mkfunc rfl rfl) ?_
      refine ws_late rfl ?_
      refine ws_callp rfl rfl rfl rfl rfl (En.go) (fun w hp hn ho => containsf_ret gw.v _ _ 45 _ _ (isDel_wd p m k es ws c d L W own ν hL hW hok hlen b2 b5 x gx hgx) (SubH.nd hn) (fun q hq => hq) _ (hgw.mono (fun q hq => by simp [hq])) (by omega) w (hp.mono SubH.mem) (SubH.nd hn)) ?_
      refine ws_l rfl rfl rfl rfl (rd_pick_f rfl rfl) ?_
      refine ws_l rfl rfl rfl rfl (rd_assign rfl) ?_
      refine ws_nil ?_
      refine qe_then ?_
      refine wc_keep [(4, _)] rfl ?_
      refine wc_ret ?_
      refine qe_body _ (.inl rfl) (res1 rfl (RV.tmp rfl)) ?_
      exact ret_end fun w hp hn ho => by rw [wd_nosucc hok.nd hx hw, ← hok.outs x]
  · intro hhas
    have hhas := of_decide_eq_false hhas
    refine ws_l rfl rfl rfl rfl (rd_not rfl) ?_
    refine ws_nil ?_
    refine qe_then ?_
    refine wc_keep [(2, _), (3, _), (4, _), (9, _)] rfl ?_
    refine wc_true rfl ?_
    refine wc_seq ?_
    refine wc_plain [(0, .x true)] (by kernel_rfl) ?_
    refine ws_l rfl rfl rfl rfl (rd_assign rfl) ?_
    refine ws_nil ?_
    refine qe_then ?_
    refine wc_ret ?_
    refine qe_then_ret ?_
    refine qe_body _ (.inl rfl) (res1 rfl (RV.tmp rfl)) ?_
    exact ret_end fun w hp hn ho => by rw [wd_out hhas]

end Go.Proofs.Ytaagmgpfpaanlaa
