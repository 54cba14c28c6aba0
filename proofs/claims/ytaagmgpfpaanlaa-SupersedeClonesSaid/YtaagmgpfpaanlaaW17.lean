/- Walks: Drop, Clone. No conditions. -/
import Derived.Test.YtaagmgpfpaanlaaDrp
import Derived.Test.YtaagmgpfpaanlaaW15
namespace Go.Proofs.Ytaagmgpfpaanlaa
open Go Go.RowKit Go.Sx
set_option linter.unusedSimpArgs false
set_option linter.unusedVariables false

set_option maxRecDepth 100000 in
set_option maxHeartbeats 1000000 in
theorem drop_ret (p m k : Nat) (es ws : Array MapEntry) (c d : Nat) (L : RMap) (W : WMap) (own : List RR) (ν : Heap) (hL : MapIs idK hrK es c L) (hW : MapIs idK wvK ws d W) (hok : SetOK ν L W own) (hlen : own.length < 8192) (id : Id) (w : World) (hη : HpOK (setC p m k es c ws d ν) w) (hnd : ((setC p m k es c ws d ν).map Prod.fst).Nodup) : Ret Try.prog 30 [ptr p, idK id] w [m, k] (fun v w' => v = I (dropE own id) ∧ SetTo m k ν (dropO own id) w w') := by
  refine enter (n := 41) (args := [ptr p, idK id]) [m, k] (setC p m k es c ws d ν) Try.func30 rfl rfl rfl hη hnd ?_
  refine wc_seq ?_
  refine wc_plain [(0, .x true), (1, .x true)] (by kernel_rfl) ?_
  refine ws_box rfl rfl rfl rfl ?_
  intro b3 hb3
  refine ws_l rfl rfl rfl rfl (rd_assign rfl) ?_
  refine ws_nil ?_
  refine qe_then ?_
  refine wc_seq ?_
  refine wc_seq ?_
  refine wc_plain [(0, .x true), (1, .x true)] (by kernel_rfl) ?_
  refine ws_l rfl rfl rfl rfl (rd_move rfl) ?_
  refine ws_l rfl rfl rfl rfl (rd_ptr_nil rfl rfl Try.underlying49 rfl) ?_
  refine ws_nil ?_
  refine qe_then ?_
  refine wc_false rfl ?_
  refine wc_skip ?_
  refine qe_then ?_
  refine wc_seq ?_
  refine wc_drawn mixedT _ (fun _ h => h) [(0, .r), (1, .r), (2, .r), (3, .r), (4, .r), (5, .r), (6, .r), (7, .r), (8, .r), (9, .x false), (10, .x false), (11, .x true)] (by kernel_rfl) ?_
  refine ws_r rfl rfl rfl rfl (rd_move rfl) ?_
  refine ws_r rfl rfl rfl rfl (rd_nil rfl) ?_
  refine ws_r rfl rfl rfl rfl (rd_fieldAddr rfl) ?_
  refine ws_r rfl rfl rfl rfl (rd_load rfl) ?_
  refine ws_r rfl rfl rfl rfl (rd_load rfl) ?_
  cases hlk : mlook L id with
  | none =>
    refine ws_r rfl rfl rfl rfl (rd_look2_none (ek := idK) (en := hrK) Try.underlying77 hL zero43 hlk rfl rfl) ?_
    refine ws_r rfl rfl rfl rfl (rd_move rfl) ?_
    refine ws_r rfl rfl rfl rfl (rd_extract rfl) ?_
    refine ws_r rfl rfl rfl rfl (rd_extract rfl) ?_
    refine ws_alloc rfl rfl rfl ?_
    intro b5 hb5
    refine ws_store rfl rfl rfl rfl (by first | exact .inl (by assumption) | exact .inr (by simp)) (fun _ h _ => by first | (cases h; done) | exact List.mem_cons_of_mem _ h | exact List.mem_cons_of_mem _ (List.mem_cons_of_mem _ h) | (simp at h ⊢; simp [h])) ?_
    refine ws_late rfl ?_
    refine ws_l rfl rfl rfl rfl (rd_assign rfl) ?_
    refine ws_nil ?_
    refine qe_then ?_
    refine wc_keep [(0, _), (3, _), (4, _), (5, _), (6, _)] rfl ?_
    refine wc_seq ?_
    refine wc_seq ?_
    refine wc_plain [(0, .x true), (1, .x true)] (by kernel_rfl) ?_
    refine ws_l rfl rfl rfl rfl (rd_move rfl) ?_
    refine ws_l rfl rfl rfl rfl (rd_not rfl) ?_
    refine ws_nil ?_
    refine qe_then ?_
    refine wc_true rfl ?_
    refine wc_seq ?_
    refine wc_plain [(0, .x true)] (by kernel_rfl) ?_
    refine ws_l rfl rfl rfl rfl (rd_assign rfl) ?_
    refine ws_nil ?_
    refine qe_then ?_
    refine wc_ret ?_
    refine qe_then_ret ?_
    refine qe_body _ (.inl rfl) (res1 rfl (RV.tmp rfl)) ?_
    have hno : ¬ ∃ x ∈ own, x.id = id := fun ⟨x, hx, he⟩ => hok.miss hlk x hx he
    exact ret_end fun w hp hn ho => ⟨by rw [dropE, if_neg hno], es, c, ws, d, L, W, [], (hp.mono SubH.mem), SubH.nd hn, by simp, hL, hW, by rw [dropO_out hno]; simpa using hok⟩
  | some e0 =>
    refine ws_r rfl rfl rfl rfl (rd_look2_some (ek := idK) (en := hrK) Try.underlying77 hL hlk rfl rfl) ?_
    refine ws_r rfl rfl rfl rfl (rd_move rfl) ?_
    refine ws_r rfl rfl rfl rfl (rd_extract rfl) ?_
    refine ws_r rfl rfl rfl rfl (rd_extract rfl) ?_
    refine ws_alloc rfl rfl rfl ?_
    intro b5 hb5
    refine ws_store rfl rfl rfl rfl (by first | exact .inl (by assumption) | exact .inr (by simp)) (fun _ h _ => by first | (cases h; done) | exact List.mem_cons_of_mem _ h | exact List.mem_cons_of_mem _ (List.mem_cons_of_mem _ h) | (simp at h ⊢; simp [h])) ?_
    refine ws_late rfl ?_
    refine ws_l rfl rfl rfl rfl (rd_assign rfl) ?_
    refine ws_nil ?_
    refine qe_then ?_
    refine wc_keep [(0, _), (3, _), (4, _), (5, _), (6, _)] rfl ?_
    refine wc_seq ?_
    refine wc_seq ?_
    refine wc_plain [(0, .x true), (1, .x true)] (by kernel_rfl) ?_
    refine ws_l rfl rfl rfl rfl (rd_move rfl) ?_
    refine ws_l rfl rfl rfl rfl (rd_not rfl) ?_
    refine ws_nil ?_
    refine qe_then ?_
    refine wc_false rfl ?_
    refine wc_skip ?_
    refine qe_then ?_
    refine wc_seq ?_
    refine wc_drawn mixedT _ (fun _ h => h) [(0, .r), (1, .r), (2, .r), (3, .r), (4, .r), (5, .x true)] (by kernel_rfl) ?_
    refine ws_r rfl rfl rfl rfl (rd_move rfl) ?_
    refine ws_r rfl rfl rfl rfl (rd_nil rfl) ?_
    refine ws_r rfl rfl rfl rfl (rd_fieldAddr rfl) ?_
    refine ws_r rfl rfl rfl rfl (rd_load rfl) ?_
    refine ws_r rfl rfl rfl rfl (rd_load rfl) ?_
    refine ws_late rfl ?_
    refine ws_delete (ek := idK) (en := hrK) (a := id) Try.underlying77 hL rfl rfl rfl rfl (.inr (by simp)) (fun _ _ h _ => by cases h) ?_
    intro es1 hL1
    refine ws_nil ?_
    refine qe_then ?_
    refine wc_keep [(0, _), (3, _), (4, _), (5, _)] rfl ?_
    refine wc_seq ?_
    refine wc_drawn mixedT _ (fun _ h => h) [(0, .r), (1, .r), (2, .r), (3, .r), (4, .r), (5, .r), (6, .r), (7, .r), (8, .r), (9, .r), (10, .r), (11, .r), (12, .r), (14, .r), (13, .x false), (15, .x false), (16, .x true)] (by kernel_rfl) ?_
    refine ws_r rfl rfl rfl rfl (rd_move rfl) ?_
    refine ws_r rfl rfl rfl rfl (rd_nil rfl) ?_
    refine ws_r rfl rfl rfl rfl (rd_fieldAddr rfl) ?_
    refine ws_r rfl rfl rfl rfl (rd_load rfl) ?_
    refine ws_r rfl rfl rfl rfl (rd_fieldAddr rfl) ?_
    refine ws_r rfl rfl rfl rfl (rd_load rfl) ?_
    refine ws_r rfl rfl rfl rfl (rd_move rfl) ?_
    refine ws_r rfl rfl rfl rfl (rd_nil rfl) ?_
    refine ws_r rfl rfl rfl rfl (rd_fieldAddr rfl) ?_
    refine ws_r rfl rfl rfl rfl (rd_load rfl) ?_
    refine ws_r rfl rfl rfl rfl (rd_fieldAddr rfl) ?_
    refine ws_r rfl rfl rfl rfl (rd_load rfl) ?_
    obtain ⟨gw, hgw, hga⟩ := hok.wait hW.keysNd e0.r.sup
    have hwl := waits_len own e0.r.sup
    refine ws_r rfl rfl rfl rfl (rd_wait hW hga rfl rfl) ?_
    refine ws_r rfl rfl rfl rfl (rd_mkfunc rfl rfl) ?_
    refine ws_call rfl rfl rfl rfl rfl (En.go) (fun w hp hn ho => idclone_ret gw.v ν _ _ hgw (by omega) w (hp.mono (by intro q hq; simp [hq])) (setC_nd hnd)) (fun _ h => by cases h) (fun hh q h => by first | (cases h; done) | exact hh q h) ?_
    rintro v38 wa wb hpo hon hon2 hp1 ⟨g1, ν1, rfl, hown1, hν1⟩
    refine ⟨ν1, hν1, hown1.nd, fun b hb => .inl (hown1.far b hb), ?_⟩
    replace hown1 := hown1.mono hon.size
    refine ws_callV ν1 rfl rfl rfl rfl rfl (En.go) (fun w hp hn ho => deletef_ret _ g1.v ν1 [(b3, .cells (idC id) 38 (0, 0))] 59 _ _ (isDel_drop b3 id) (by simp) _ hown1 (by omega) w (hp.mono SubH.mem) (SubH.nd hn)) (fun b hb => .inl (hown1.far b hb)) (fun hh q h => by first | (cases h; done) | exact hh q h | (simp only [List.mem_append, List.mem_cons] at h ⊢; grind) | skip) ?_
    rintro v40 wa wb hpo hon hon2 hp1 ⟨g2, ν2, rfl, hown2, hν2, hbl2⟩
    refine ⟨ν2, hν2, hown2.nd, fun b hb => .inr (hbl2 b hb), ?_⟩
    refine ws_late rfl ?_
    refine ws_update (ek := idK) (en := wvK) (a := e0.r.sup) (b := (⟨g2, (waits own e0.r.sup).filter (fun y => !decide (y = id))⟩ : WV)) Try.underlying78 hW rfl rfl rfl rfl rfl (.inr (by simp)) ?_
    intro es2 c2 hL2
    refine ws_nil ?_
    refine qe_then ?_
    refine wc_keep [(4, _)] rfl ?_
    refine wc_seq ?_
    refine wc_plain [(0, .x true)] (by kernel_rfl) ?_
    refine ws_l rfl rfl rfl rfl (rd_assign rfl) ?_
    refine ws_nil ?_
    refine qe_then ?_
    refine wc_ret ?_
    refine qe_body _ (.inl rfl) (res1 rfl (RV.tmp rfl)) ?_
    obtain ⟨hm0, he0, -⟩ := hok.look hlk
    subst he0
    have hex : ∃ x ∈ own, x.id = e0.r.id := ⟨_, hm0, rfl⟩
    exact ret_end fun w hp hn ho => ⟨by rw [dropE, if_pos hex], es1, c, es2, c2, _, _, ν2, (hp.mono SubH.mem), SubH.nd hn, hown2.far, hL1, hL2, (hok.mono (fun q hq => List.mem_append_right _ hq)).drop hm0 (hown2.src.mono (fun q hq => List.mem_append_left _ hq))⟩
set_option maxRecDepth 100000 in
set_option maxHeartbeats 1000000 in
theorem mclone77_ret (m : Nat) (es : Array MapEntry) (c : Nat) (w : World) (hη : HpOK [(m, .map es c)] w) : Ret Try.prog 57 [.map (some m)] w [] (fun v w' => ∃ m', v = .map (some m') ∧ w.heap.size ≤ m' ∧ HpOK [(m', .map es c)] w') := by
  refine enter (n := 9) (args := [.map (some m)]) [] [(m, .map es c)] Try.func57 rfl rfl rfl hη (by simp) ?_
  refine wc_seq ?_
  refine wc_plain [(0, .x true)] (by kernel_rfl) ?_
  refine ws_l rfl rfl rfl rfl (rd_assign rfl) ?_
  refine ws_nil ?_
  refine qe_then ?_
  refine wc_seq ?_
  refine wc_seq ?_
  refine wc_plain [(0, .x true), (1, .x true)] (by kernel_rfl) ?_
  refine ws_l rfl rfl rfl rfl (rd_move rfl) ?_
  refine ws_l rfl rfl rfl rfl (rd_mapnil rfl rfl Try.underlying77 rfl) ?_
  refine ws_nil ?_
  refine qe_then ?_
  refine wc_false rfl ?_
  refine wc_skip ?_
  refine qe_then ?_
  refine wc_seq ?_
  refine wc_plain [(0, .x true), (1, .x true), (2, .x true), (3, .x true), (4, .x true)] (by kernel_rfl) ?_
  refine ws_l rfl rfl rfl rfl (rd_move rfl) ?_
  refine ws_l rfl rfl rfl rfl (rd_iface rfl (run_iface_map Try.underlying77)) ?_
  refine ws_externN (v := fun b => .iface 77 (.map (some b))) (o := .map es c) rfl rfl rfl Try.func76 (by kernel_rfl) (by kernel_rfl) (by kernel_rfl) (e := Extern.MapsClone.clone) (by kernel_rfl) rfl rfl (fun w hp => run_clone_map 77 (hp m (.map es c) (by simp))) ?_
  intro b7 hb7
  refine ws_l rfl rfl rfl rfl (rd_assert rfl (run_assert_map Try.underlying77)) ?_
  refine ws_l rfl rfl rfl rfl (rd_assign rfl) ?_
  refine ws_nil ?_
  refine qe_then ?_
  refine wc_keep [(2, _)] rfl ?_
  refine wc_ret ?_
  refine qe_body _ (.inl rfl) (res1 rfl (RV.tmp rfl)) ?_
  exact ret_end fun w hp hn ho => ⟨b7, rfl, hb7, hp.mono (by simp)⟩
set_option maxRecDepth 100000 in
set_option maxHeartbeats 1000000 in
theorem mclone78_ret (m : Nat) (es : Array MapEntry) (c : Nat) (w : World) (hη : HpOK [(m, .map es c)] w) : Ret Try.prog 58 [.map (some m)] w [] (fun v w' => ∃ m', v = .map (some m') ∧ w.heap.size ≤ m' ∧ HpOK [(m', .map es c)] w') := by
  refine enter (n := 9) (args := [.map (some m)]) [] [(m, .map es c)] Try.func58 rfl rfl rfl hη (by simp) ?_
  refine wc_seq ?_
  refine wc_plain [(0, .x true)] (by kernel_rfl) ?_
  refine ws_l rfl rfl rfl rfl (rd_assign rfl) ?_
  refine ws_nil ?_
  refine qe_then ?_
  refine wc_seq ?_
  refine wc_seq ?_
  refine wc_plain [(0, .x true), (1, .x true)] (by kernel_rfl) ?_
  refine ws_l rfl rfl rfl rfl (rd_move rfl) ?_
  refine ws_l rfl rfl rfl rfl (rd_mapnil rfl rfl Try.underlying78 rfl) ?_
  refine ws_nil ?_
  refine qe_then ?_
  refine wc_false rfl ?_
  refine wc_skip ?_
  refine qe_then ?_
  refine wc_seq ?_
  refine wc_plain [(0, .x true), (1, .x true), (2, .x true), (3, .x true), (4, .x true)] (by kernel_rfl) ?_
  refine ws_l rfl rfl rfl rfl (rd_move rfl) ?_
  refine ws_l rfl rfl rfl rfl (rd_iface rfl (run_iface_map Try.underlying78)) ?_
  refine ws_externN (v := fun b => .iface 78 (.map (some b))) (o := .map es c) rfl rfl rfl Try.func76 (by kernel_rfl) (by kernel_rfl) (by kernel_rfl) (e := Extern.MapsClone.clone) (by kernel_rfl) rfl rfl (fun w hp => run_clone_map 78 (hp m (.map es c) (by simp))) ?_
  intro b7 hb7
  refine ws_l rfl rfl rfl rfl (rd_assert rfl (run_assert_map Try.underlying78)) ?_
  refine ws_l rfl rfl rfl rfl (rd_assign rfl) ?_
  refine ws_nil ?_
  refine qe_then ?_
  refine wc_keep [(2, _)] rfl ?_
  refine wc_ret ?_
  refine qe_body _ (.inl rfl) (res1 rfl (RV.tmp rfl)) ?_
  exact ret_end fun w hp hn ho => ⟨b7, rfl, hb7, hp.mono (by simp)⟩
set_option maxRecDepth 100000 in
set_option maxHeartbeats 1000000 in
theorem clone_ret (p m k : Nat) (es ws : Array MapEntry) (c d : Nat) (L : RMap) (W : WMap) (own : List RR) (ν : Heap) (hL : MapIs idK hrK es c L) (hW : MapIs idK wvK ws d W) (hok : SetOK ν L W own) (hlen : own.length < 8192) (w : World) (hη : HpOK (setC p m k es c ws d ν) w) (hnd : ((setC p m k es c ws d ν).map Prod.fst).Nodup) : Ret Try.prog 29 [ptr p] w [] (fun v w' => SetNew ν own w w' v) := by
  refine enter (n := 17) (args := [ptr p]) [] (setC p m k es c ws d ν) Try.func29 rfl rfl rfl hη hnd ?_
  refine wc_seq ?_
  refine wc_plain [(0, .x true)] (by kernel_rfl) ?_
  refine ws_l rfl rfl rfl rfl (rd_assign rfl) ?_
  refine ws_nil ?_
  refine qe_then ?_
  refine wc_seq ?_
  refine wc_seq ?_
  refine wc_plain [(0, .x true), (1, .x true)] (by kernel_rfl) ?_
  refine ws_l rfl rfl rfl rfl (rd_move rfl) ?_
  refine ws_l rfl rfl rfl rfl (rd_ptr_nil rfl rfl Try.underlying49 rfl) ?_
  refine ws_nil ?_
  refine qe_then ?_
  refine wc_false rfl ?_
  refine wc_skip ?_
  refine qe_then ?_
  refine wc_seq ?_
  refine wc_drawn mixedT _ (fun _ h => h) [(0, .r), (1, .r), (2, .r), (3, .r), (5, .r), (6, .r), (7, .r), (8, .r), (4, .x false), (9, .x true), (10, .x true), (11, .x true), (12, .x true)] (by kernel_rfl) ?_
  refine ws_r rfl rfl rfl rfl (rd_move rfl) ?_
  refine ws_r rfl rfl rfl rfl (rd_nil rfl) ?_
  refine ws_r rfl rfl rfl rfl (rd_fieldAddr rfl) ?_
  refine ws_r rfl rfl rfl rfl (rd_load rfl) ?_
  refine ws_r rfl rfl rfl rfl (rd_move rfl) ?_
  refine ws_r rfl rfl rfl rfl (rd_nil rfl) ?_
  refine ws_r rfl rfl rfl rfl (rd_fieldAddr rfl) ?_
  refine ws_r rfl rfl rfl rfl (rd_load rfl) ?_
  refine ws_call rfl rfl rfl rfl rfl (En.go) (fun w hp hn ho => mclone77_ret m es c w (hp.mono (by intro q hq; simp at hq; simp [hq]))) (fun _ h => by cases h) (fun hh q h => by first | (cases h; done) | exact hh q h) ?_
  rintro v9 wa wb hpo hon hon2 hp1 ⟨m', rfl, hm'b, hm'p⟩
  refine ⟨[(m', .map es c)], hm'p, by simp, fun b hb => .inl (by simp at hb; subst hb; exact hm'b), ?_⟩
  replace hm'b := Nat.le_trans hon.size hm'b
  simp only [List.cons_append, List.nil_append]
  refine ws_late rfl ?_
  refine ws_call rfl rfl rfl rfl rfl (En.go) (fun w hp hn ho => mclone78_ret k ws d w (hp.mono (by intro q hq; simp at hq; simp [hq]))) (fun _ h => by cases h) (fun hh q h => by first | (cases h; done) | exact hh q h) ?_
  rintro v14 wa wb hpo hon hon2 hp1 ⟨k', rfl, hk'b, hk'p⟩
  refine ⟨[(k', .map ws d)], hk'p, by simp, fun b hb => .inl (by simp at hb; subst hb; exact hk'b), ?_⟩
  replace hk'b := Nat.le_trans hon.size hk'b
  simp only [List.cons_append, List.nil_append]
  refine ws_l rfl rfl rfl rfl (rd_build rfl) ?_
  refine ws_box rfl rfl rfl rfl ?_
  intro b16 hb16
  refine ws_l rfl rfl rfl rfl (rd_assign rfl) ?_
  refine ws_nil ?_
  refine qe_then ?_
  refine wc_keep [(2, _)] rfl ?_
  refine wc_ret ?_
  refine qe_body _ (.inl rfl) (res1 rfl (RV.tmp rfl)) ?_
  exact ret_end fun w hp hn ho => ⟨b16, m', k', es, c, ws, d, L, W, [], rfl, (hp.mono SubH.mem), SubH.nd hn, fun b hb => by simp only [List.map_cons, List.map_nil, List.mem_cons, List.not_mem_nil, or_false] at hb; rcases hb with rfl | rfl | rfl; exact hb16; exact hm'b; exact hk'b, hL, hW, by simpa using hok⟩
set_option maxRecDepth 100000 in
set_option maxHeartbeats 1000000 in
theorem clone_nil (w : World) : Ret Try.prog 29 [.pointer none] w [] (fun v _ => v = .pointer none) := by
  refine enter (n := 17) (args := [.pointer none]) [] [] Try.func29 rfl rfl rfl (HpOK.nil w) (by simp) ?_
  refine wc_seq ?_
  refine wc_plain [(0, .x true)] (by kernel_rfl) ?_
  refine ws_l rfl rfl rfl rfl (rd_assign rfl) ?_
  refine ws_nil ?_
  refine qe_then ?_
  refine wc_seq ?_
  refine wc_seq ?_
  refine wc_plain [(0, .x true), (1, .x true)] (by kernel_rfl) ?_
  refine ws_l rfl rfl rfl rfl (rd_move rfl) ?_
  refine ws_l rfl rfl rfl rfl (rd_nil_nil rfl rfl Try.underlying49 rfl) ?_
  refine ws_nil ?_
  refine qe_then ?_
  refine wc_true rfl ?_
  refine wc_seq ?_
  refine wc_plain [(0, .x true)] (by kernel_rfl) ?_
  refine ws_l rfl rfl rfl rfl (rd_assign rfl) ?_
  refine ws_nil ?_
  refine qe_then ?_
  refine wc_ret ?_
  refine qe_then_ret ?_
  refine qe_body _ (.inl rfl) (res1 rfl (RV.tmp rfl)) ?_
  exact ret_end fun w hp hn ho => rfl

end Go.Proofs.Ytaagmgpfpaanlaa
