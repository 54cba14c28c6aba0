/- Walk: SupersedeStays. No conditions. -/
import Derived.Test.YtaagmgpfpaanlaaW22
import Derived.Test.YtaagmgpfpaanlaaW8
namespace Go.Proofs.Ytaagmgpfpaanlaa
open Go Go.RowKit Go.Sx
set_option linter.unusedSimpArgs false
set_option linter.unusedVariables false

set_option maxRecDepth 100000 in
set_option maxHeartbeats 4000000 in
theorem supersedeStays_ret (v : Value) (φ : Heap) (ops : List SOp) (hsrc : Src φ v 83 ops.length (ops.flatMap opL)) (a : RR) (id : Id) (w : World) (hφ : HpOK φ w) (hnd : (φ.map Prod.fst).Nodup) : Ret Try.prog 7 [v, rrK a, idK id] w [] (fun u _ => u = .bool true) := by
  refine enter (n := 35) (args := [v, rrK a, idK id]) [] φ Try.func7 rfl rfl rfl hφ hnd ?_
  refine wc_seq ?_
  refine wc_plain [(0, .x true), (1, .x true), (2, .x true)] (by kernel_rfl) ?_
  refine ws_box rfl rfl rfl rfl ?_
  intro b4 hb4
  refine ws_box rfl rfl rfl rfl ?_
  intro b5 hb5
  refine ws_l rfl rfl rfl rfl (rd_assign rfl) ?_
  refine ws_nil ?_
  refine qe_then ?_
  refine wc_seq ?_
  refine wc_seq ?_
  refine wc_plain [(0, .x true), (1, .x true)] (by kernel_rfl) ?_
  refine ws_callp rfl rfl rfl rfl rfl (En.go) (fun w hp hn ho => known_ret w) ?_
  refine ws_l rfl rfl rfl rfl (rd_not rfl) ?_
  refine ws_nil ?_
  refine qe_then ?_
  refine wc_false rfl ?_
  refine wc_skip ?_
  refine qe_then ?_
  refine wc_seq ?_
  refine wc_plain [(0, .x true), (1, .x true), (2, .x true), (3, .x true), (4, .x true), (5, .x true), (6, .x true), (7, .x true), (8, .x true)] (by kernel_rfl) ?_
  refine ws_l rfl rfl rfl rfl (rd_move rfl) ?_
  refine ws_call rfl rfl rfl rfl rfl (En.go) (fun w hp hn ho => play_ret v φ ops hsrc w (hp.mono SubH.mem) hnd) (fun _ h => by cases h) (fun hh q h => by first | (cases h; done) | exact hh q h) ?_
  rintro v15 wa wb hpo hon hon2 hp1 ⟨p, m, k, es, c, ws, d, L, W, νs, own, v3, ν3, rfl, hset, hsnd, hsfar, hL, hW, hok, hown, hol⟩
  refine ⟨_, hset, hsnd, fun b hb => .inl (hsfar b hb), ?_⟩
  simp only [List.cons_append, List.append_assoc]
  have hpb := Nat.le_trans hon.size (hsfar p (by simp))
  have hmb := Nat.le_trans hon.size (hsfar m (by simp))
  have hkb := Nat.le_trans hon.size (hsfar k (by simp))
  replace hown := hown.mono hon.size
  refine ws_l rfl rfl rfl rfl (rd_move rfl) ?_
  refine ws_l rfl rfl rfl rfl (rd_extract rfl) ?_
  refine ws_l rfl rfl rfl rfl (rd_extract rfl) ?_
  refine ws_l rfl rfl rfl rfl (rd_extract rfl) ?_
  refine ws_l rfl rfl rfl rfl (rd_assign rfl) ?_
  refine ws_l rfl rfl rfl rfl (rd_assign rfl) ?_
  refine ws_l rfl rfl rfl rfl (rd_assign rfl) ?_
  refine ws_nil ?_
  refine qe_then ?_
  refine wc_keep [(4, _), (5, _), (6, _), (7, _), (9, _)] rfl ?_
  refine wc_seq ?_
  refine wc_seq ?_
  refine wc_plain [(0, .x true), (1, .x true)] (by kernel_rfl) ?_
  refine ws_l rfl rfl rfl rfl (rd_move rfl) ?_
  refine ws_l rfl rfl rfl rfl (rd_not rfl) ?_
  refine ws_nil ?_
  refine qe_then ?_
  refine wc_false rfl ?_
  refine wc_skip ?_
  refine qe_then ?_
  refine wc_seq ?_
  refine wc_plain [(0, .x true), (1, .x true), (2, .x true), (3, .x true)] (by kernel_rfl) ?_
  refine ws_l rfl rfl rfl rfl (rd_move rfl) ?_
  refine ws_l rfl rfl rfl rfl (rd_load rfl) ?_
  refine ws_callb (wdB own id) rfl rfl rfl rfl rfl (En.go) (fun w hp hn ho => wd_ret p m k es ws c d L W own νs hL hW hok (by omega) id w (hp.mono SubH.mem) (SubH.nd hn)) ?_ ?_
  · intro hw
    refine ws_l rfl rfl rfl rfl (rd_assign rfl) ?_
    refine ws_nil ?_
    refine qe_then ?_
    refine wc_keep [(4, _), (5, _), (6, _), (7, _), (10, _)] rfl ?_
    refine wc_seq ?_
    refine wc_plain [(0, .x true), (1, .x true), (2, .x true), (3, .x true)] (by kernel_rfl) ?_
    refine ws_l rfl rfl rfl rfl (rd_move rfl) ?_
    refine ws_l rfl rfl rfl rfl (rd_load rfl) ?_
    refine ws_call rfl rfl rfl rfl rfl (En.go) (fun w hp hn ho => to_ret a w) (fun _ h => by cases h) (fun hh q h => by first | (cases h; done) | exact hh q h) ?_
    rintro v26 wa wb hpo hon hon2 hp1 ⟨g2, ν2, rfl, hown2, hν2⟩
    refine ⟨ν2, hν2, hown2.nd, fun b hb => .inl (hown2.far b hb), ?_⟩
    replace hown2 := hown2.mono hon.size
    refine ws_call rfl rfl rfl rfl rfl (En.go) (fun w hp hn ho => add_ret p m k es ws c d L W own (ν2 ++ νs) hL hW (hok.mono (fun q hq => List.mem_append_right _ hq)) (by omega) a g2 (hown2.src.mono (fun q hq => List.mem_append_left _ hq)) w (hp.mono SubH.mem) (SubH.nd hn)) (fun b hb => by simp only [List.mem_cons, List.not_mem_nil, or_false] at hb; rcases hb with rfl | rfl; exact .inl hmb; exact .inl hkb) (fun hh q h => by first | (cases h; done) | exact hh q h) ?_
    rintro v27 wa wb hpo hon hon2 hp1 ⟨rfl, es1, c1, ws1, d1, L1, W1, ν1, hp2, hnd2, hfar2, hL1, hW1, hok1⟩
    refine ⟨(m, .map es1 c1) :: (k, .map ws1 d1) :: ν1, hp2, hnd2, fun b hb => by simp only [List.map_cons, List.mem_cons] at hb; rcases hb with rfl | rfl | hb; exact .inr (by simp); exact .inr (by simp); exact .inl (hfar2 b hb), ?_⟩
    simp only [List.cons_append]
    replace hfar2 : ∀ b ∈ ν1.map Prod.fst, _ ≤ b := fun b hb => Nat.le_trans hon.size (hfar2 b hb)
    refine ws_nil ?_
    refine qe_then ?_
    refine wc_keep [(5, _), (6, _), (7, _), (10, _)] rfl ?_
    refine wc_seq ?_
    refine wc_plain [(0, .x true), (1, .x true), (2, .x true), (3, .x true), (4, .x true), (5, .x true), (6, .x true), (7, .x true)] (by kernel_rfl) ?_
    refine ws_l rfl rfl rfl rfl (rd_move rfl) ?_
    refine ws_l rfl rfl rfl rfl (rd_not rfl) ?_
    refine ws_l rfl rfl rfl rfl (rd_move rfl) ?_
    refine ws_l rfl rfl rfl rfl (rd_move rfl) ?_
    refine ws_l rfl rfl rfl rfl (rd_load rfl) ?_
    refine ws_callp rfl rfl rfl rfl rfl (En.go) (fun w hp hn ho => by have h := wd_ret p m k es1 ws1 c1 d1 L1 W1 (addO own a) (ν1 ++ (ν2 ++ νs)) hL1 hW1 hok1 (by have := addO_len own a; omega) id w (hp.mono SubH.mem) (SubH.nd hn); rwa [wd_mono (addO_sub own a) hw] at h) ?_
    refine ws_l rfl rfl rfl rfl (rd_pick_f rfl rfl) ?_
    refine ws_l rfl rfl rfl rfl (rd_assign rfl) ?_
    refine ws_nil ?_
    refine qe_then ?_
    refine wc_keep [(6, _)] rfl ?_
    refine wc_ret ?_
    refine qe_body _ (.inl rfl) (res1 rfl (RV.tmp rfl)) ?_
    exact ret_end fun w hp hn ho => rfl
  · intro hw
    refine ws_l rfl rfl rfl rfl (rd_assign rfl) ?_
    refine ws_nil ?_
    refine qe_then ?_
    refine wc_keep [(4, _), (5, _), (6, _), (7, _), (10, _)] rfl ?_
    refine wc_seq ?_
    refine wc_plain [(0, .x true), (1, .x true), (2, .x true), (3, .x true)] (by kernel_rfl) ?_
    refine ws_l rfl rfl rfl rfl (rd_move rfl) ?_
    refine ws_l rfl rfl rfl rfl (rd_load rfl) ?_
    refine ws_call rfl rfl rfl rfl rfl (En.go) (fun w hp hn ho => to_ret a w) (fun _ h => by cases h) (fun hh q h => by first | (cases h; done) | exact hh q h) ?_
    rintro v26 wa wb hpo hon hon2 hp1 ⟨g2, ν2, rfl, hown2, hν2⟩
    refine ⟨ν2, hν2, hown2.nd, fun b hb => .inl (hown2.far b hb), ?_⟩
    replace hown2 := hown2.mono hon.size
    refine ws_call rfl rfl rfl rfl rfl (En.go) (fun w hp hn ho => add_ret p m k es ws c d L W own (ν2 ++ νs) hL hW (hok.mono (fun q hq => List.mem_append_right _ hq)) (by omega) a g2 (hown2.src.mono (fun q hq => List.mem_append_left _ hq)) w (hp.mono SubH.mem) (SubH.nd hn)) (fun b hb => by simp only [List.mem_cons, List.not_mem_nil, or_false] at hb; rcases hb with rfl | rfl; exact .inl hmb; exact .inl hkb) (fun hh q h => by first | (cases h; done) | exact hh q h) ?_
    rintro v27 wa wb hpo hon hon2 hp1 ⟨rfl, es1, c1, ws1, d1, L1, W1, ν1, hp2, hnd2, hfar2, hL1, hW1, hok1⟩
    refine ⟨(m, .map es1 c1) :: (k, .map ws1 d1) :: ν1, hp2, hnd2, fun b hb => by simp only [List.map_cons, List.mem_cons] at hb; rcases hb with rfl | rfl | hb; exact .inr (by simp); exact .inr (by simp); exact .inl (hfar2 b hb), ?_⟩
    simp only [List.cons_append]
    replace hfar2 : ∀ b ∈ ν1.map Prod.fst, _ ≤ b := fun b hb => Nat.le_trans hon.size (hfar2 b hb)
    refine ws_nil ?_
    refine qe_then ?_
    refine wc_keep [(5, _), (6, _), (7, _), (10, _)] rfl ?_
    refine wc_seq ?_
    refine wc_plain [(0, .x true), (1, .x true), (2, .x true), (3, .x true), (4, .x true), (5, .x true), (6, .x true), (7, .x true)] (by kernel_rfl) ?_
    refine ws_l rfl rfl rfl rfl (rd_move rfl) ?_
    refine ws_l rfl rfl rfl rfl (rd_not rfl) ?_
    refine ws_l rfl rfl rfl rfl (rd_move rfl) ?_
    refine ws_xskip rfl rfl rfl rfl ?_
    refine ws_xskip rfl rfl rfl rfl ?_
    refine ws_xskip rfl rfl rfl rfl ?_
    refine ws_l rfl rfl rfl rfl (rd_pick_t rfl rfl) ?_
    refine ws_l rfl rfl rfl rfl (rd_assign rfl) ?_
    refine ws_nil ?_
    refine qe_then ?_
    refine wc_keep [(6, _)] rfl ?_
    refine wc_ret ?_
    refine qe_body _ (.inl rfl) (res1 rfl (RV.tmp rfl)) ?_
    exact ret_end fun w hp hn ho => rfl

end Go.Proofs.Ytaagmgpfpaanlaa
