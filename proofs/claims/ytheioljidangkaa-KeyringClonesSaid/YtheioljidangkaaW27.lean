/- Walk: KeyringClones. No conditions. -/
import Derived.Test.YtheioljidangkaaW26
import Derived.Test.YtheioljidangkaaW20
import Derived.Test.YtheioljidangkaaOpn
namespace Go.Proofs.Ytheioljidangkaa
open Go Go.RowKit Go.Sx
set_option linter.unusedSimpArgs false
set_option linter.unusedVariables false

theorem addM_perm {own2 own : List RK} (h : own2.Perm own) (m : MV) : (addM own2 m).Perm (addM own m) := by
  unfold addM addO
  rw [← addE_congr (fun x => h.mem_iff) (rekR m)]
  split
  · exact h.append_right _
  · exact h
theorem addM_or (own : List RK) (m : MV) : addM own m = own ∨ (addM own m).length = own.length + 1 := by
  unfold addM addO
  split
  · right; simp
  · left; rfl
theorem same_add {own2 own : List RK} (h : own2.Perm own) (m : MV) (hl : (addM own m).length = own.length) : (addM own2 m).Perm own := by
  have h1 := addM_perm h m
  rcases addM_or own m with h2 | h2
  · rw [h2] at h1; exact h1
  · omega
theorem nsame_add {own2 own : List RK} (h : own2.Perm own) (m : MV) (hl : ¬ (addM own m).length = own.length) : ¬ sameF (addM own2 m) own ∧ ¬ sameF own (addM own2 m) :=
  ⟨fun hs => hl (by rw [← (addM_perm h m).length_eq]; exact hs.1), fun hs => hl (by rw [← (addM_perm h m).length_eq]; exact hs.1.symm)⟩
section
variable {P : Program} {σ : Slots} {φ : Heap} {dst : Option Tmp} {ty : TypeId} {pos : String} {aft : Array Edge} {g : Option (Nat × Bool)}
theorem rd_beql {T U : TypeId} {x y : Operand} {a b : Bool} (hx : ev σ x = some (.bool a)) (hy : ev σ y = some (.bool b)) (hT : P.underlying T = some .bool) (h : a = b) : Rd P σ φ ⟨dst, .binOp .eql T x y U, ty, pos, aft, g⟩ (.bool true) :=
  rd_bin hx hy fun w => by
    subst h
    have h : ∀ d, (Op.equalIn (d + 1) T (.bool a) (.bool a)).run P w = .ok true w := fun d => by simp [Op.equalIn, run_underlying hT]
    have h' : (Op.equal T (.bool a) (.bool a)).run P w = .ok true w := h 9999
    simp [eqGuard, binOp, h']
end
set_option maxRecDepth 100000 in
set_option maxHeartbeats 8000000 in
theorem clones_ret (v : Value) (φ : Heap) (ms : List MV) (hsrc : Src φ v 7 ms.length (ms.flatMap mvL)) (more : MV) (w : World) (hφ : HpOK φ w) (hnd : (φ.map Prod.fst).Nodup) : Ret Try.prog 7 [v, mvK more] w [] (fun u _ => u = .bool true) := by
  refine enter (n := 82) (args := [v, mvK more]) [] φ Try.func7 rfl rfl rfl hφ hnd ?_
  refine wc_seq ?_
  refine wc_plain [(0, .x true), (1, .x true)] (by kernel_rfl) ?_
  refine ws_box rfl rfl rfl rfl ?_
  intro b3 hb3
  refine ws_l rfl rfl rfl rfl (rd_assign rfl) ?_
  refine ws_nil ?_
  refine qe_then ?_
  refine wc_seq ?_
  refine wc_seq ?_
  refine wc_plain [(0, .x true), (1, .x true)] (by kernel_rfl) ?_
  refine ws_callp rfl rfl rfl rfl rfl (En.go) (fun w hp hn ho => known_ret w) ?_
  refine ws_l rfl rfl rfl rfl (rd_not rfl) ?_
  refine ws_nil ?_
  refine qe_then ?_
  refine wc_false rfl ?_
  refine wc_skip ?_
  refine qe_then ?_
  refine wc_seq ?_
  refine wc_plain [(0, .x true), (1, .x true), (2, .x true), (3, .x true), (4, .x true), (5, .x true), (6, .x true), (7, .x true), (8, .x true)] (by kernel_rfl) ?_
  refine ws_l rfl rfl rfl rfl (rd_move rfl) ?_
  refine ws_call rfl rfl rfl rfl rfl (En.go) (fun w hp hn ho => build_law v φ ms hsrc 16 (by omega) w (hp.mono SubH.mem) (SubH.nd hn)) (fun _ h => by cases h) (fun hh q h => by first | (cases h; done) | exact hh q h) ?_
  rintro v15 wa wb hpo hon hon2 hp1 ⟨p, m, k, es, c, ws, d, L, W, v8, νl, rfl, hph, hpn, hpf, hL, hW, hok, hlo⟩
  refine ⟨_, hph, hpn, fun b hb => .inl (hpf b hb), ?_⟩
  replace hlo := hlo.mono hon.size
  have hpf' := fun b hb => Nat.le_trans hon.size (hpf b hb)
  have hl24 : (buildF (ms.take 16)).length < 8192 := by have h1 := buildF_len (ms.take 16); rw [List.length_take] at h1; omega
  simp only [List.cons_append, List.append_assoc]
  refine ws_l rfl rfl rfl rfl (rd_move rfl) ?_
  refine ws_l rfl rfl rfl rfl (rd_extract rfl) ?_
  refine ws_l rfl rfl rfl rfl (rd_extract rfl) ?_
  refine ws_l rfl rfl rfl rfl (rd_extract rfl) ?_
  refine ws_l rfl rfl rfl rfl (rd_assign rfl) ?_
  refine ws_l rfl rfl rfl rfl (rd_assign rfl) ?_
  refine ws_l rfl rfl rfl rfl (rd_assign rfl) ?_
  refine ws_nil ?_
  refine qe_then ?_
  refine wc_keep [(3, _), (4, _), (5, _), (6, _)] rfl ?_
  refine wc_seq ?_
  refine wc_plain [(0, .x true), (1, .x true), (2, .x true)] (by kernel_rfl) ?_
  refine ws_l rfl rfl rfl rfl (rd_move rfl) ?_
  refine ws_call rfl rfl rfl rfl rfl (En.go) (fun w hp hn ho => clone_ret p m k es ws c d L W (buildF (ms.take 16)) hL hW hok hl24 w (hp.mono SubH.mem) (SubH.nd hn)) (fun _ h => by cases h) (fun hh q h => by first | (cases h; done) | exact hh q h) ?_
  rintro v20 wa wb hpo hon hon2 hp1 ⟨p2, m2, k2, es2, c2, ws2, d2, L2, W2, own2, rfl, hph2, hpn2, hpf2, hL2, hW2, hok2, hperm⟩
  refine ⟨_, hph2, hpn2, fun b hb => .inl (hpf2 b hb), ?_⟩
  have hpf2' := fun b hb => Nat.le_trans hon.size (hpf2 b hb)
  have hl2 : own2.length < 8192 := by rw [hperm.length_eq]; exact hl24
  simp only [List.cons_append, List.append_assoc]
  refine ws_l rfl rfl rfl rfl (rd_assign rfl) ?_
  refine ws_nil ?_
  refine qe_then ?_
  refine wc_seq ?_
  refine wc_seq ?_
  refine wc_plain [(0, .x true), (1, .x true), (2, .x true), (3, .x true), (4, .x true), (5, .x true), (6, .x true), (7, .x true), (8, .x true), (9, .x true), (10, .x true), (11, .x true), (12, .x true), (13, .x true)] (by kernel_rfl) ?_
  refine ws_l rfl rfl rfl rfl (rd_move rfl) ?_
  refine ws_l rfl rfl rfl rfl (rd_ptr_nil rfl rfl Try.underlying25 rfl) ?_
  refine ws_l rfl rfl rfl rfl (rd_move rfl) ?_
  refine ws_l rfl rfl rfl rfl (rd_move rfl) ?_
  refine ws_l rfl rfl rfl rfl (rd_move rfl) ?_
  refine ws_callp rfl rfl rfl rfl rfl (En.go) (fun w hp hn ho => by have h := equal_ret p2 m2 k2 p m k es2 es c2 c L2 L W2 W own2 (buildF (ms.take 16)) hL2 hL hok2 hok w (hp.mono SubH.mem) (SubH.nd hn); rwa [decide_eq_true (sameF_perm hperm)] at h) ?_
  refine ws_l rfl rfl rfl rfl (rd_not rfl) ?_
  refine ws_l rfl rfl rfl rfl (rd_pick_f rfl rfl) ?_
  refine ws_l rfl rfl rfl rfl (rd_move rfl) ?_
  refine ws_l rfl rfl rfl rfl (rd_move rfl) ?_
  refine ws_l rfl rfl rfl rfl (rd_move rfl) ?_
  refine ws_callp rfl rfl rfl rfl rfl (En.go) (fun w hp hn ho => by have h := equal_ret p m k p2 m2 k2 es es2 c c2 L L2 W W2 (buildF (ms.take 16)) own2 hL hL2 hok hok2 w (hp.mono SubH.mem) (SubH.nd hn); rwa [decide_eq_true (sameF_perm hperm.symm)] at h) ?_
  refine ws_l rfl rfl rfl rfl (rd_not rfl) ?_
  refine ws_l rfl rfl rfl rfl (rd_pick_f rfl rfl) ?_
  refine ws_nil ?_
  refine qe_then ?_
  refine wc_keep [(3, _), (4, _), (5, _), (6, _), (8, _), (34, _)] rfl ?_
  refine wc_false rfl ?_
  refine wc_skip ?_
  refine qe_then ?_
  refine wc_seq ?_
  refine wc_plain [(0, .x true), (1, .x true), (2, .x true), (3, .x true), (4, .x true), (5, .x true), (6, .x true), (7, .x true), (8, .x true)] (by kernel_rfl) ?_
  refine ws_l rfl rfl rfl rfl (rd_move rfl) ?_
  refine ws_l rfl rfl rfl rfl (rd_move rfl) ?_
  refine ws_l rfl rfl rfl rfl (rd_load rfl) ?_
  refine ws_callV (ringT m2 k2 es2 c2 ws2 d2 (facts W2)) rfl rfl rfl rfl rfl (En.go) (fun w hp hn ho => add2_law p2 m2 k2 es2 ws2 c2 d2 L2 W2 own2 hL2 hW2 hok2 hl2 (buildF (ms.take 16)) hl24 (fun x => hperm.mem_iff) v8 νl hlo.src more w (hp.mono SubH.mem) (SubH.nd hn)) (fun b hb => .inl (hpf2' b (List.mem_cons_of_mem _ hb))) (fun hh q h => by first | (cases h; done) | exact hh q h | (simp only [List.mem_append, List.mem_cons] at h ⊢; grind) | skip) ?_
  rintro v39 wa wb hpo hon hon2 hp1 ⟨u1, ν1, rfl, hν1, hnd1, hfar1, hdisj, es3, c3, ws3, d3, L3, W3, hp3, hnd3, hfar3, hL3, hW3, hok3⟩
  refine ⟨ringT m2 k2 es3 c3 ws3 d3 (facts W3) ++ ν1, hp3.append hν1, hnd3, fun b hb => by rw [List.map_append, List.mem_append] at hb; exact hb.elim (hfar3 b) (fun h => .inl (hfar1 b h)), ?_⟩
  have hls2 : Src (νl ++ ν1) u1 84 (addM (buildF (ms.take 16)) more).length ((addM (buildF (ms.take 16)) more).flatMap rkL) := hdisj.elim (fun h => by rw [h.1, h.2]; exact hlo.src.mono (fun q hq => List.mem_append_left _ hq)) (fun h => h.src.mono (fun q hq => List.mem_append_right _ hq))
  have hl3 : (addM own2 more).length < 8192 := by have h1 := addM_len own2 more; have h2 := hperm.length_eq; have h3 := buildF_len (ms.take 16); rw [List.length_take] at h3; omega
  have hl4 : (addM (buildF (ms.take 16)) more).length < 8192 := by have h1 := addM_len (buildF (ms.take 16)) more; have h3 := buildF_len (ms.take 16); rw [List.length_take] at h3; omega
  simp only [List.cons_append, List.append_assoc]
  refine ws_l rfl rfl rfl rfl (rd_move rfl) ?_
  refine ws_l rfl rfl rfl rfl (rd_extract rfl) ?_
  refine ws_l rfl rfl rfl rfl (rd_extract rfl) ?_
  refine ws_l rfl rfl rfl rfl (rd_assign rfl) ?_
  refine ws_l rfl rfl rfl rfl (rd_assign rfl) ?_
  refine ws_nil ?_
  refine qe_then ?_
  refine wc_keep [(4, _), (5, _), (6, _), (8, _), (9, _), (10, _)] rfl ?_
  refine wc_seq ?_
  refine wc_plain [(0, .x true), (1, .x true), (2, .x true), (3, .x true), (4, .x true), (5, .x true), (6, .x true), (7, .x true), (8, .x true), (9, .x true), (10, .x true), (11, .x true), (12, .x true), (13, .x true), (14, .x true), (15, .x true), (16, .x true), (17, .x true), (18, .x true), (19, .x true), (20, .x true), (21, .x true), (22, .x true), (23, .x true), (24, .x true), (25, .x true), (26, .x true), (27, .x true), (28, .x true), (29, .x true), (30, .x true), (31, .x true), (32, .x true), (33, .x true), (34, .x true), (35, .x true), (36, .x true), (37, .x true), (38, .x true), (39, .x true), (40, .x true)] (by kernel_rfl) ?_
  refine ws_l rfl rfl rfl rfl (rd_move rfl) ?_
  refine ws_l rfl rfl rfl rfl (rd_move rfl) ?_
  refine ws_l rfl rfl rfl rfl (rd_move rfl) ?_
  refine ws_callp rfl rfl rfl rfl rfl (En.go) (fun w hp hn ho => len_ret p m k es ws c d L W (buildF (ms.take 16)) hL hW hok hl24 w (hp.mono SubH.mem) (SubH.nd hn)) ?_
  refine ws_l rfl rfl rfl rfl (rd_move rfl) ?_
  refine ws_l rfl rfl rfl rfl (rd_lenO hlo rfl Try.underlying26) ?_
  refine ws_l rfl rfl rfl rfl (rd_cmp_t rfl rfl rfl (by simp only [cmpP])) ?_
  refine ws_l rfl rfl rfl rfl (rd_pick_t rfl rfl) ?_
  refine ws_l rfl rfl rfl rfl (rd_move rfl) ?_
  refine ws_l rfl rfl rfl rfl (rd_move rfl) ?_
  refine ws_l rfl rfl rfl rfl (rd_move rfl) ?_
  refine ws_callp rfl rfl rfl rfl rfl (En.go) (fun w hp hn ho => chains_law p m k es ws c d L W (buildF (ms.take 16)) hL hW hok hl24 v8 νl (buildF (ms.take 16)) hlo.src hl24 hok.ok (fun _ => rfl) w (hp.mono SubH.mem) (SubH.nd hn)) ?_
  refine ws_l rfl rfl rfl rfl (rd_pick_t rfl rfl) ?_
  refine ws_l rfl rfl rfl rfl (rd_move rfl) ?_
  refine ws_l rfl rfl rfl rfl (rd_move rfl) ?_
  refine ws_l rfl rfl rfl rfl (rd_move rfl) ?_
  refine ws_callp rfl rfl rfl rfl rfl (En.go) (fun w hp hn ho => chains_law p2 m2 k2 es3 ws3 c3 d3 L3 W3 (addM own2 more) hL3 hW3 hok3 hl3 u1 (νl ++ ν1) (addM (buildF (ms.take 16)) more) hls2 hl4 (addO_ok hok.ok) (fun a => chain_congr (fun x => (addM_perm hperm more).mem_iff) (idU_nd hok3.nd) a) w (hp.mono SubH.mem) (SubH.nd hn)) ?_
  refine ws_l rfl rfl rfl rfl (rd_pick_t rfl rfl) ?_
  refine ws_l rfl rfl rfl rfl (rd_move rfl) ?_
  refine ws_l rfl rfl rfl rfl (rd_move rfl) ?_
  refine ws_l rfl rfl rfl rfl (rd_move rfl) ?_
  by_cases hsz : (addM (buildF (ms.take 16)) more).length = (buildF (ms.take 16)).length
  ·
    refine ws_callp rfl rfl rfl rfl rfl (En.go) (fun w hp hn ho => by have h := equal_ret p2 m2 k2 p m k es3 es c3 c L3 L W3 W (addM own2 more) (buildF (ms.take 16)) hL3 hL hok3 hok w (hp.mono SubH.mem) (SubH.nd hn); rwa [decide_eq_true (sameF_perm (same_add hperm more hsz))] at h) ?_
    refine ws_l rfl rfl rfl rfl (rd_move rfl) ?_
    refine ws_l rfl rfl rfl rfl (rd_lenS hls2 rfl Try.underlying26) ?_
    refine ws_l rfl rfl rfl rfl (rd_move rfl) ?_
    refine ws_l rfl rfl rfl rfl (rd_lenO hlo rfl Try.underlying26) ?_
    refine ws_l rfl rfl rfl rfl (rd_cmp_t rfl rfl rfl (by simp only [cmpP]; omega)) ?_
    refine ws_l rfl rfl rfl rfl (rd_beql rfl rfl Try.underlying4 rfl) ?_
    refine ws_l rfl rfl rfl rfl (rd_pick_t rfl rfl) ?_
    refine ws_l rfl rfl rfl rfl (rd_move rfl) ?_
    refine ws_l rfl rfl rfl rfl (rd_move rfl) ?_
    refine ws_l rfl rfl rfl rfl (rd_move rfl) ?_
    refine ws_callp rfl rfl rfl rfl rfl (En.go) (fun w hp hn ho => by have h := equal_ret p m k p2 m2 k2 es es3 c c3 L L3 W W3 (buildF (ms.take 16)) (addM own2 more) hL hL3 hok hok3 w (hp.mono SubH.mem) (SubH.nd hn); rwa [decide_eq_true (sameF_perm (same_add hperm more hsz).symm)] at h) ?_
    refine ws_l rfl rfl rfl rfl (rd_move rfl) ?_
    refine ws_l rfl rfl rfl rfl (rd_lenS hls2 rfl Try.underlying26) ?_
    refine ws_l rfl rfl rfl rfl (rd_move rfl) ?_
    refine ws_l rfl rfl rfl rfl (rd_lenO hlo rfl Try.underlying26) ?_
    refine ws_l rfl rfl rfl rfl (rd_cmp_t rfl rfl rfl (by simp only [cmpP]; omega)) ?_
    refine ws_l rfl rfl rfl rfl (rd_beql rfl rfl Try.underlying4 rfl) ?_
    refine ws_l rfl rfl rfl rfl (rd_pick_t rfl rfl) ?_
    refine ws_l rfl rfl rfl rfl (rd_assign rfl) ?_
    refine ws_nil ?_
    refine qe_then ?_
    refine wc_keep [(4, _)] rfl ?_
    refine wc_ret ?_
    refine qe_body _ (.inl rfl) (res1 rfl (RV.tmp rfl)) ?_
    exact ret_end fun w hp hn ho => rfl
  ·
    refine ws_callp rfl rfl rfl rfl rfl (En.go) (fun w hp hn ho => by have h := equal_ret p2 m2 k2 p m k es3 es c3 c L3 L W3 W (addM own2 more) (buildF (ms.take 16)) hL3 hL hok3 hok w (hp.mono SubH.mem) (SubH.nd hn); rwa [decide_eq_false (nsame_add hperm more hsz).1] at h) ?_
    refine ws_l rfl rfl rfl rfl (rd_move rfl) ?_
    refine ws_l rfl rfl rfl rfl (rd_lenS hls2 rfl Try.underlying26) ?_
    refine ws_l rfl rfl rfl rfl (rd_move rfl) ?_
    refine ws_l rfl rfl rfl rfl (rd_lenO hlo rfl Try.underlying26) ?_
    refine ws_l rfl rfl rfl rfl (rd_cmp_f rfl rfl rfl (by simp only [cmpP]; omega)) ?_
    refine ws_l rfl rfl rfl rfl (rd_beql rfl rfl Try.underlying4 rfl) ?_
    refine ws_l rfl rfl rfl rfl (rd_pick_t rfl rfl) ?_
    refine ws_l rfl rfl rfl rfl (rd_move rfl) ?_
    refine ws_l rfl rfl rfl rfl (rd_move rfl) ?_
    refine ws_l rfl rfl rfl rfl (rd_move rfl) ?_
    refine ws_callp rfl rfl rfl rfl rfl (En.go) (fun w hp hn ho => by have h := equal_ret p m k p2 m2 k2 es es3 c c3 L L3 W W3 (buildF (ms.take 16)) (addM own2 more) hL hL3 hok hok3 w (hp.mono SubH.mem) (SubH.nd hn); rwa [decide_eq_false (nsame_add hperm more hsz).2] at h) ?_
    refine ws_l rfl rfl rfl rfl (rd_move rfl) ?_
    refine ws_l rfl rfl rfl rfl (rd_lenS hls2 rfl Try.underlying26) ?_
    refine ws_l rfl rfl rfl rfl (rd_move rfl) ?_
    refine ws_l rfl rfl rfl rfl (rd_lenO hlo rfl Try.underlying26) ?_
    refine ws_l rfl rfl rfl rfl (rd_cmp_f rfl rfl rfl (by simp only [cmpP]; omega)) ?_
    refine ws_l rfl rfl rfl rfl (rd_beql rfl rfl Try.underlying4 rfl) ?_
    refine ws_l rfl rfl rfl rfl (rd_pick_t rfl rfl) ?_
    refine ws_l rfl rfl rfl rfl (rd_assign rfl) ?_
    refine ws_nil ?_
    refine qe_then ?_
    refine wc_keep [(4, _)] rfl ?_
    refine wc_ret ?_
    refine qe_body _ (.inl rfl) (res1 rfl (RV.tmp rfl)) ?_
    exact ret_end fun w hp hn ho => rfl

end Go.Proofs.Ytheioljidangkaa
