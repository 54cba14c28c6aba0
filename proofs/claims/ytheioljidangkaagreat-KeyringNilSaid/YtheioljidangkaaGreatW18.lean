/- Walks: the laws' helpers: add. No conditions. -/
import Derived.Test.YtheioljidangkaaGreatW17
namespace Go.Proofs.YtheioljidangkaaGreat
open Go Go.RowKit Go.Sx
set_option linter.unusedSimpArgs false
set_option linter.unusedVariables false

set_option maxRecDepth 100000 in
set_option maxHeartbeats 4000000 in
theorem add_law (p m k : Nat) (es ws : Array MapEntry) (c d : Nat) (L : RMap) (W : WMap) (own : List RK) (hL : MapIs (idK (n := 32)) rkK es c L) (hW : MapIs plE pvE ws d W) (hok : RingOK L W own) (hlen : own.length < 8192) (v : Value) (νl : Heap) (hsrc : Src νl v 84 own.length (own.flatMap rkL)) (m0 : MV) (w : World) (hη : HpOK (ringP p m k :: (ringT m k es c ws d (facts W) ++ νl)) w) (hnd : ((ringP p m k :: (ringT m k es c ws d (facts W) ++ νl)).map Prod.fst).Nodup) : Ret Tryz.prog 26 [ptr p, v, mvK m0] w ((ringT m k es c ws d (facts W)).map Prod.fst) (fun u w' => ∃ (u1 : Value) (ν1 : Heap), u = .tuple #[u1, .bool true] ∧ HpOK ν1 w' ∧ (ν1.map Prod.fst).Nodup ∧ (∀ b ∈ ν1.map Prod.fst, w.heap.size ≤ b) ∧ ((u1 = v ∧ addM own m0 = own) ∨ OwnR w.heap.size 53 84 u1 ν1 (addM own m0).length ((addM own m0).flatMap rkL)) ∧ ∃ (es : Array MapEntry) (c : Nat) (ws : Array MapEntry) (d : Nat) (L1 : RMap) (W1 : WMap), HpOK (ringT m k es c ws d (facts W1)) w' ∧ ((ringT m k es c ws d (facts W1) ++ ν1).map Prod.fst).Nodup ∧ (∀ b ∈ (ringT m k es c ws d (facts W1)).map Prod.fst, w.heap.size ≤ b ∨ b ∈ ((ringT m k es c ws d (facts W)).map Prod.fst)) ∧ MapIs (idK (n := 32)) rkK es c L1 ∧ MapIs plE pvE ws d W1 ∧ RingOK L1 W1 (addM own m0)) := by
  refine enter (n := 52) (args := [ptr p, v, mvK m0]) ((ringT m k es c ws d (facts W)).map Prod.fst) (ringP p m k :: (ringT m k es c ws d (facts W) ++ νl)) Tryz.func26 rfl rfl rfl hη hnd ?_
  refine wc_seq ?_
  refine wc_plain [(0, .x true), (1, .x true), (2, .x true)] (by kernel_rfl) ?_
  refine ws_box rfl rfl rfl rfl ?_
  intro b5 hb5
  refine ws_l rfl rfl rfl rfl (rd_assign rfl) ?_
  refine ws_l rfl rfl rfl rfl (rd_assign rfl) ?_
  refine ws_nil ?_
  refine qe_then ?_
  refine wc_seq ?_
  refine wc_plain [(0, .x true), (1, .x true), (2, .x true), (3, .x true), (4, .x true), (5, .x true), (6, .x true), (7, .x true), (8, .x true), (9, .x true)] (by kernel_rfl) ?_
  refine ws_l rfl rfl rfl rfl (rd_load rfl) ?_
  refine ws_callp rfl rfl rfl rfl rfl (En.go) (fun w hp hn ho => rekey_ret m0 w) ?_
  refine ws_l rfl rfl rfl rfl (rd_move rfl) ?_
  refine ws_l rfl rfl rfl rfl (rd_extract rfl) ?_
  refine ws_l rfl rfl rfl rfl (rd_extract rfl) ?_
  refine ws_l rfl rfl rfl rfl (rd_extract rfl) ?_
  refine ws_alloc rfl rfl rfl ?_
  intro b8 hb8
  refine ws_store rfl rfl rfl rfl (by first | exact .inl (by assumption) | exact .inr (by simp)) (fun _ h _ => by first | (cases h; done) | exact List.mem_cons_of_mem _ h | exact List.mem_cons_of_mem _ (List.mem_cons_of_mem _ h) | (simp at h ⊢; simp [h])) ?_
  refine ws_l rfl rfl rfl rfl (rd_assign rfl) ?_
  refine ws_l rfl rfl rfl rfl (rd_assign rfl) ?_
  refine ws_nil ?_
  refine qe_then ?_
  refine wc_keep [(0, _), (1, _), (6, _), (7, _), (8, _), (9, _), (10, _)] rfl ?_
  refine wc_seq ?_
  refine wc_plain [(0, .x true), (1, .x true), (2, .x true), (3, .x true), (4, .x true), (5, .x true), (6, .x true), (7, .x true), (8, .x true), (9, .x true)] (by kernel_rfl) ?_
  refine ws_l rfl rfl rfl rfl (rd_move rfl) ?_
  refine ws_l rfl rfl rfl rfl (rd_load rfl) ?_
  refine ws_l rfl rfl rfl rfl (rd_move rfl) ?_
  refine ws_l rfl rfl rfl rfl (rd_move rfl) ?_
  refine ws_call rfl rfl rfl rfl rfl (En.go) (fun w hp hn ho => add_ref v νl own hsrc (by omega) (by omega) (rekR m0) (rekK m0) (rekN m0) w (hp.mono SubH.mem) (SubH.nd hn)) (fun _ h => by cases h) (fun hh q h => by first | (cases h; done) | exact hh q h) ?_
  rintro v25 wa wb hpo hon hon2 hp1 ⟨u1, rfl, hu1⟩
  obtain ⟨ν1, hν1, hnd1, hfar1, hdisj⟩ : ∃ ν1 : Heap, HpOK ν1 wb ∧ (ν1.map Prod.fst).Nodup ∧ (∀ b ∈ ν1.map Prod.fst, wa.heap.size ≤ b) ∧ ((u1 = v ∧ addM own m0 = own) ∨ OwnR wa.heap.size 53 84 u1 ν1 (addM own m0).length ((addM own m0).flatMap rkL)) := by
    rcases hu1 with ⟨he, rfl⟩ | ⟨he, ν1, hown1, hν1⟩
    · exact ⟨[], HpOK.nil _, by simp, by simp, .inl ⟨rfl, if_neg he⟩⟩
    · refine ⟨ν1, hν1, hown1.nd, fun b hb => hown1.far b hb, .inr ?_⟩
      rw [show addM own m0 = own ++ [rekR m0] from if_pos he]; exact hown1
  refine ⟨ν1, hν1, hnd1, fun b hb => .inl (hfar1 b hb), ?_⟩
  replace hfar1 : ∀ b ∈ ν1.map Prod.fst, _ ≤ b := fun b hb => Nat.le_trans hon.size (hfar1 b hb)
  replace hdisj : (u1 = v ∧ addM own m0 = own) ∨ OwnR _ 53 84 u1 ν1 (addM own m0).length ((addM own m0).flatMap rkL) := hdisj.imp (fun h => h) (fun h => h.mono hon.size)
  refine ws_l rfl rfl rfl rfl (rd_move rfl) ?_
  refine ws_l rfl rfl rfl rfl (rd_extract rfl) ?_
  refine ws_l rfl rfl rfl rfl (rd_extract rfl) ?_
  refine ws_l rfl rfl rfl rfl (rd_assign rfl) ?_
  refine ws_l rfl rfl rfl rfl (rd_assign rfl) ?_
  refine ws_nil ?_
  refine qe_then ?_
  refine wc_keep [(0, _), (6, _), (7, _), (8, _), (9, _), (10, _), (11, _), (12, _)] rfl ?_
  refine wc_seq ?_
  refine wc_drawn mixedT _ (fun _ h => h) [(0, .r), (1, .r), (2, .r), (3, .r), (4, .r), (5, .r), (6, .r), (7, .r), (8, .r), (10, .r), (11, .r), (13, .r), (14, .r), (15, .r), (16, .r), (9, .x false), (12, .r), (17, .x false), (18, .r), (19, .x true), (20, .x true)] (by kernel_rfl) ?_
  refine ws_r rfl rfl rfl rfl (rd_move rfl) ?_
  refine ws_r rfl rfl rfl rfl (rd_fieldAddr rfl) ?_
  refine ws_r rfl rfl rfl rfl (rd_load rfl) ?_
  refine ws_r rfl rfl rfl rfl (rd_fieldAddr rfl) ?_
  refine ws_r rfl rfl rfl rfl (rd_load rfl) ?_
  refine ws_r rfl rfl rfl rfl (rd_fieldAddr rfl) ?_
  refine ws_r rfl rfl rfl rfl (rd_load rfl) ?_
  refine ws_r rfl rfl rfl rfl (rd_fieldAddr rfl) ?_
  refine ws_r rfl rfl rfl rfl (rd_load rfl) ?_
  refine ws_r rfl rfl rfl rfl (rd_fieldAddr rfl) ?_
  refine ws_r rfl rfl rfl rfl (rd_load rfl) ?_
  refine ws_r rfl rfl rfl rfl (rd_move rfl) ?_
  refine ws_r rfl rfl rfl rfl (rd_move rfl) ?_
  refine ws_r rfl rfl rfl rfl (rd_fieldAddr rfl) ?_
  refine ws_r rfl rfl rfl rfl (rd_load rfl) ?_
  refine ws_callp rfl rfl rfl rfl rfl (En.go) (fun w hp hn ho => to_ret _ w) ?_
  refine ws_r rfl rfl rfl rfl (rd_build rfl) ?_
  refine ws_callp rfl rfl rfl rfl rfl (En.go) (fun w hp hn ho => to_ret _ w) ?_
  refine ws_r rfl rfl rfl rfl (rd_build rfl) ?_
  refine ws_late rfl ?_
  refine ws_callV (ringT m k es c ws d (facts W)) rfl rfl rfl rfl rfl (En.go) (fun w hp hn ho => add_ret p m k es ws c d L W own hL hW hok hlen (rekR m0).id ⟨(rekR m0).au, (rekR m0).n, (rekR m0).p, (rekR m0).leaf, ⟨#[120]⟩⟩ ⟨rekK m0, rekN m0, (rekR m0).q⟩ w (hp.mono SubH.mem) (SubH.nd hn)) (fun b hb => .inr hb) (fun hh q h => by first | (cases h; done) | exact hh q h | (simp only [List.mem_append, List.mem_cons] at h ⊢; grind) | skip) ?_
  rintro v47 wa wb hpo hon hon2 hp1 ⟨rfl, es1, c1, ws1, d1, L1, W1, hp2, hnd2, hfar2, hL1, hW1, hok1⟩
  refine ⟨ringT m k es1 c1 ws1 d1 (facts W1), hp2, hnd2, hfar2, ?_⟩
  simp only [List.cons_append]
  replace hfar2 : ∀ b ∈ (ringT m k es1 c1 ws1 d1 (facts W1)).map Prod.fst, _ ∨ _ := fun b hb => (hfar2 b hb).imp (Nat.le_trans hon.size) (fun h => h)
  refine ws_l rfl rfl rfl rfl (rd_assign rfl) ?_
  refine ws_nil ?_
  refine qe_then ?_
  refine wc_keep [(6, _), (7, _), (11, _), (12, _), (13, _)] rfl ?_
  refine wc_seq ?_
  refine wc_plain [(0, .x true), (1, .x true), (2, .x true), (3, .x true), (4, .x true), (5, .x true)] (by kernel_rfl) ?_
  refine ws_l rfl rfl rfl rfl (rd_move rfl) ?_
  refine ws_l rfl rfl rfl rfl (rd_move rfl) ?_
  refine ws_l rfl rfl rfl rfl (rd_move rfl) ?_
  refine ws_l rfl rfl rfl rfl (rd_cmp_t rfl rfl rfl (by simp only [cmpP])) ?_
  refine ws_l rfl rfl rfl rfl (rd_assign rfl) ?_
  refine ws_l rfl rfl rfl rfl (rd_assign rfl) ?_
  refine ws_nil ?_
  refine qe_then ?_
  refine wc_keep [(6, _), (7, _)] rfl ?_
  refine wc_ret ?_
  refine qe_body _ (.inl rfl) (res2 rfl (RV.tmp rfl) (RV.tmp rfl)) ?_
  exact ret_end fun w hp hn ho => ⟨u1, ν1, rfl, (hp.mono SubH.mem), SubH.nd hn, hfar1, hdisj, es1, c1, ws1, d1, L1, W1, hp.mono SubH.mem, SubH.nd hn, hfar2, hL1, hW1, hok1⟩

end Go.Proofs.YtheioljidangkaaGreat
