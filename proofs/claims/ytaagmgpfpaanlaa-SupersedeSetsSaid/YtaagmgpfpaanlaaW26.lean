/- Walk: SupersedeSets. No conditions. -/
import Derived.Test.YtaagmgpfpaanlaaW25
import Derived.Test.YtaagmgpfpaanlaaW22
import Derived.Test.YtaagmgpfpaanlaaW20
namespace Go.Proofs.Ytaagmgpfpaanlaa
open Go Go.RowKit Go.Sx
set_option linter.unusedSimpArgs false
set_option linter.unusedVariables false

section
variable {P : Program} {σ : Slots} {φ : Heap} {dst : Option Tmp} {ty : TypeId} {pos : String} {aft : Array Edge} {g : Option (Nat × Bool)}
theorem rd_beq_t {T U : TypeId} {x y : Operand} {a b : Bool} (hx : ev σ x = some (.bool a)) (hy : ev σ y = some (.bool b)) (hT : P.underlying T = some .bool) (h : a = b) : Rd P σ φ ⟨dst, .binOp .eql T x y U, ty, pos, aft, g⟩ (.bool true) :=
  rd_bin hx hy fun w => by
    subst h
    have h : ∀ d, (Op.equalIn (d + 1) T (.bool a) (.bool a)).run P w = .ok true w := fun d => by simp [Op.equalIn, run_underlying hT]
    have h' : (Op.equal T (.bool a) (.bool a)).run P w = .ok true w := h 9999
    simp [eqGuard, binOp, h']
end
set_option maxRecDepth 100000 in
set_option maxHeartbeats 4000000 in
theorem supersedeSets_ret (v : Value) (φ : Heap) (ops : List SOp) (hsrc : Src φ v 83 ops.length (ops.flatMap opL)) (id : Id) (w : World) (hφ : HpOK φ w) (hnd : (φ.map Prod.fst).Nodup) : Ret Try.prog 10 [v, idK id] w [] (fun u _ => u = .bool true) := by
  refine enter (n := 148) (args := [v, idK id]) [] φ Try.func10 rfl rfl rfl hφ hnd ?_
  refine wc_seq ?_
  refine wc_plain [(0, .x true), (1, .x true)] (by kernel_rfl) ?_
  refine ws_box rfl rfl rfl rfl ?_
  intro b3 hb3
  refine ws_l rfl rfl rfl rfl (rd_assign rfl) ?_
  refine ws_nil ?_
  refine qe_then ?_
  refine wc_seq ?_
  refine wc_seq ?_
  refine wc_plain [(0, .x true), (1, .x true)] (by kernel_rfl) ?_
  refine ws_callp rfl rfl rfl rfl rfl (En.go) (fun w hp hn ho => known_ret w) ?_
  refine ws_l rfl rfl rfl rfl (rd_not rfl) ?_
  refine ws_nil ?_
  refine qe_then ?_
  refine wc_false rfl ?_
  refine wc_skip ?_
  refine qe_then ?_
  refine wc_seq ?_
  refine wc_plain [(0, .x true), (1, .x true), (2, .x true), (3, .x true), (4, .x true), (5, .x true), (6, .x true), (7, .x true), (8, .x true)] (by kernel_rfl) ?_
  refine ws_l rfl rfl rfl rfl (rd_move rfl) ?_
  refine ws_call rfl rfl rfl rfl rfl (En.go) (fun w hp hn ho => play_ret v φ ops hsrc w (hp.mono SubH.mem) hnd) (fun _ h => by cases h) (fun hh q h => by first | (cases h; done) | exact hh q h) ?_
  rintro v18 wa wb hpo hon hon2 hp1 ⟨p, m, k, es, c, ws, d, L, W, νs, own, v3, ν3, rfl, hset, hsnd, hsfar, hL, hW, hok, hown, hol⟩
  refine ⟨_, hset, hsnd, fun b hb => .inl (hsfar b hb), ?_⟩
  simp only [List.cons_append, List.append_assoc]
  have hpb := Nat.le_trans hon.size (hsfar p (by simp))
  have hmb := Nat.le_trans hon.size (hsfar m (by simp))
  have hkb := Nat.le_trans hon.size (hsfar k (by simp))
  replace hown := hown.mono hon.size
  refine ws_l rfl rfl rfl rfl (rd_move rfl) ?_
  refine ws_l rfl rfl rfl rfl (rd_extract rfl) ?_
  refine ws_l rfl rfl rfl rfl (rd_extract rfl) ?_
  refine ws_l rfl rfl rfl rfl (rd_extract rfl) ?_
  refine ws_l rfl rfl rfl rfl (rd_assign rfl) ?_
  refine ws_l rfl rfl rfl rfl (rd_assign rfl) ?_
  refine ws_l rfl rfl rfl rfl (rd_assign rfl) ?_
  refine ws_nil ?_
  refine qe_then ?_
  refine wc_keep [(3, _), (4, _), (5, _), (6, _), (7, _)] rfl ?_
  refine wc_seq ?_
  refine wc_seq ?_
  refine wc_plain [(0, .x true), (1, .x true), (2, .x true), (3, .x true), (4, .x true), (5, .x true), (6, .x true), (7, .x true), (8, .x true)] (by kernel_rfl) ?_
  refine ws_l rfl rfl rfl rfl (rd_move rfl) ?_
  refine ws_l rfl rfl rfl rfl (rd_not rfl) ?_
  refine ws_l rfl rfl rfl rfl (rd_move rfl) ?_
  refine ws_l rfl rfl rfl rfl (rd_move rfl) ?_
  refine ws_callp rfl rfl rfl rfl rfl (En.go) (fun w hp hn ho => len_ret p m k es ws c d L W own νs hL hW hok (by omega) w (hp.mono SubH.mem) (SubH.nd hn)) ?_
  refine ws_l rfl rfl rfl rfl (rd_move rfl) ?_
  refine ws_l rfl rfl rfl rfl (rd_lenO hown rfl Try.underlying22) ?_
  refine ws_l rfl rfl rfl rfl (rd_cmp_f rfl rfl rfl (by simp [cmpP])) ?_
  refine ws_l rfl rfl rfl rfl (rd_pick_f rfl rfl) ?_
  refine ws_nil ?_
  refine qe_then ?_
  refine wc_keep [(3, _), (4, _), (5, _), (6, _), (30, _)] rfl ?_
  refine wc_false rfl ?_
  refine wc_skip ?_
  refine qe_then ?_
  refine wc_seq ?_
  refine wc_plain [(0, .x true), (1, .x true), (2, .x true), (3, .x true)] (by kernel_rfl) ?_
  refine ws_l rfl rfl rfl rfl (rd_move rfl) ?_
  refine ws_l rfl rfl rfl rfl (rd_load rfl) ?_
  refine ws_callp rfl rfl rfl rfl rfl (En.go) (fun w hp hn ho => find_ref v3 ν3 own hown.src (by omega) id w (hp.mono SubH.mem) (SubH.nd hn)) ?_
  refine ws_l rfl rfl rfl rfl (rd_assign rfl) ?_
  refine ws_nil ?_
  refine qe_then ?_
  refine wc_seq ?_
  refine wc_seq ?_
  refine wc_plain [(0, .x true), (1, .x true)] (by kernel_rfl) ?_
  refine ws_l rfl rfl rfl rfl (rd_move rfl) ?_
  rcases findR_first id own 0 with ⟨hf1, hf2⟩ | ⟨i, x, hx, rfl, hfe, hf4⟩
  ·
    refine ws_l rfl rfl rfl rfl (rd_cmp_t rfl rfl rfl (by simp only [cmpP]; omega)) ?_
    have hno : ¬ ∃ x ∈ own, x.id = id := fun ⟨x, hx, e⟩ => hf2 x hx e
    have hpn : pathI own id = [] := by rw [pathI, if_neg hno]
    have hsn := succI_out hno
    refine ws_nil ?_
    refine qe_then ?_
    refine wc_keep [(3, _), (4, _), (5, _), (6, _), (8, _), (35, _)] rfl ?_
    refine wc_true rfl ?_
    refine wc_seq ?_
    refine wc_plain [(0, .x true), (1, .x true), (2, .x true), (3, .x true), (4, .x true), (5, .x true), (6, .x true), (7, .x true), (8, .x true)] (by kernel_rfl) ?_
    refine ws_l rfl rfl rfl rfl (rd_move rfl) ?_
    refine ws_l rfl rfl rfl rfl (rd_load rfl) ?_
    refine ws_callp rfl rfl rfl rfl rfl (En.go) (fun w hp hn ho => by have h := end_ret p m k es ws c d L W own νs hL hW hok (by omega) id w (hp.mono SubH.mem) (SubH.nd hn); simpa [hpn, lastD] using h) ?_
    refine ws_l rfl rfl rfl rfl (rd_move rfl) ?_
    refine ws_l rfl rfl rfl rfl (rd_extract rfl) ?_
    refine ws_l rfl rfl rfl rfl (rd_extract rfl) ?_
    refine ws_alloc rfl rfl rfl ?_
    intro b9 hb9
    refine ws_store rfl rfl rfl rfl (by first | exact .inl (by assumption) | exact .inr (by simp)) (fun _ h _ => by first | (cases h; done) | exact List.mem_cons_of_mem _ h | exact List.mem_cons_of_mem _ (List.mem_cons_of_mem _ h) | (simp at h ⊢; simp [h])) ?_
    refine ws_l rfl rfl rfl rfl (rd_assign rfl) ?_
    refine ws_nil ?_
    refine qe_then ?_
    refine wc_keep [(3, _), (4, _), (5, _), (6, _), (8, _), (9, _), (10, _)] rfl ?_
    refine wc_seq ?_
    refine wc_plain [(0, .x true), (1, .x true), (2, .x true), (3, .x true), (4, .x true), (5, .x true), (6, .x true), (7, .x true), (8, .x true), (9, .x true), (10, .x true), (11, .x true), (12, .x true), (13, .x true), (14, .x true), (15, .x true), (16, .x true), (17, .x true), (18, .x true), (19, .x true), (20, .x true), (21, .x true), (22, .x true), (23, .x true), (24, .x true), (25, .x true), (26, .x true), (27, .x true), (28, .x true), (29, .x true), (30, .x true), (31, .x true), (32, .x true), (33, .x true)] (by kernel_rfl) ?_
    refine ws_l rfl rfl rfl rfl (rd_move rfl) ?_
    refine ws_l rfl rfl rfl rfl (rd_load rfl) ?_
    refine ws_callp rfl rfl rfl rfl rfl (En.go) (fun w hp hn ho => by have h := has_ret p m k es ws c d L W own νs hL hW hok (by omega) id w (hp.mono SubH.mem) (SubH.nd hn); rwa [decide_eq_false hno] at h) ?_
    refine ws_l rfl rfl rfl rfl (rd_not rfl) ?_
    refine ws_l rfl rfl rfl rfl (rd_move rfl) ?_
    refine ws_l rfl rfl rfl rfl (rd_move rfl) ?_
    refine ws_l rfl rfl rfl rfl (rd_load rfl) ?_
    refine ws_callp rfl rfl rfl rfl rfl (En.go) (fun w hp hn ho => by have h := wd_ret p m k es ws c d L W own νs hL hW hok (by omega) id w (hp.mono SubH.mem) (SubH.nd hn); rwa [wd_out hno] at h) ?_
    refine ws_l rfl rfl rfl rfl (rd_not rfl) ?_
    refine ws_l rfl rfl rfl rfl (rd_pick_t rfl rfl) ?_
    refine ws_l rfl rfl rfl rfl (rd_move rfl) ?_
    refine ws_l rfl rfl rfl rfl (rd_load rfl) ?_
    refine ws_l rfl rfl rfl rfl (rd_build rfl) ?_
    refine ws_l rfl rfl rfl rfl (rd_eqid_t rfl rfl Try.underlying38 (by kernel_rfl) rfl) ?_
    refine ws_l rfl rfl rfl rfl (rd_pick_t rfl rfl) ?_
    refine ws_l rfl rfl rfl rfl (rd_move rfl) ?_
    refine ws_l rfl rfl rfl rfl (rd_move rfl) ?_
    refine ws_l rfl rfl rfl rfl (rd_not rfl) ?_
    refine ws_l rfl rfl rfl rfl (rd_pick_t rfl rfl) ?_
    refine ws_l rfl rfl rfl rfl (rd_move rfl) ?_
    refine ws_l rfl rfl rfl rfl (rd_move rfl) ?_
    refine ws_l rfl rfl rfl rfl (rd_load rfl) ?_
    refine ws_call rfl rfl rfl rfl rfl (En.go) (fun w hp hn ho => path_ret p m k es ws c d L W own νs hL hW hok (by omega) id w (hp.mono SubH.mem) (SubH.nd hn)) (fun _ h => by cases h) (fun hh q h => by first | (cases h; done) | exact hh q h) ?_
    rintro v64 wa wb hpo hon hon2 hp1 ⟨g64, ν64, rfl, hown64, hν64⟩
    refine ⟨ν64, hν64, hown64.nd, fun b hb => .inl (hown64.far b hb), ?_⟩
    replace hown64 := hown64.mono hon.size
    rw [hpn] at hown64
    refine ws_l rfl rfl rfl rfl (rd_lenO hown64 rfl Try.underlying26) ?_
    refine ws_l rfl rfl rfl rfl (rd_cmp_t rfl rfl rfl (by simp [cmpP])) ?_
    refine ws_l rfl rfl rfl rfl (rd_pick_t rfl rfl) ?_
    refine ws_l rfl rfl rfl rfl (rd_move rfl) ?_
    refine ws_l rfl rfl rfl rfl (rd_move rfl) ?_
    refine ws_l rfl rfl rfl rfl (rd_load rfl) ?_
    refine ws_call rfl rfl rfl rfl rfl (En.go) (fun w hp hn ho => succ_ret p m k es ws c d L W own νs hL hW hok (by omega) id w (hp.mono SubH.mem) (SubH.nd hn)) (fun _ h => by cases h) (fun hh q h => by first | (cases h; done) | exact hh q h) ?_
    rintro v71 wa wb hpo hon hon2 hp1 ⟨g71, ν71, rfl, hown71, hν71⟩
    refine ⟨ν71, hν71, hown71.nd, fun b hb => .inl (hown71.far b hb), ?_⟩
    replace hown71 := hown71.mono hon.size
    rw [hsn] at hown71
    refine ws_l rfl rfl rfl rfl (rd_lenO hown71 rfl Try.underlying26) ?_
    refine ws_l rfl rfl rfl rfl (rd_cmp_t rfl rfl rfl (by simp [cmpP])) ?_
    refine ws_l rfl rfl rfl rfl (rd_pick_t rfl rfl) ?_
    refine ws_l rfl rfl rfl rfl (rd_assign rfl) ?_
    refine ws_nil ?_
    refine qe_then ?_
    refine wc_keep [(3, _), (4, _), (5, _), (6, _), (8, _)] rfl ?_
    refine wc_ret ?_
    refine qe_then_ret ?_
    refine qe_body _ (.inl rfl) (res1 rfl (RV.tmp rfl)) ?_
    exact ret_end fun w hp hn ho => rfl
  ·
    rw [Nat.zero_add] at hfe
    have hxm := List.mem_of_getElem? hx
    have hil := (List.getElem?_eq_some_iff.1 hx).1
    rw [hfe]
    refine ws_l rfl rfl rfl rfl (rd_cmp_f rfl rfl rfl (by simp only [cmpP]; omega)) ?_
    refine ws_nil ?_
    refine qe_then ?_
    refine wc_keep [(3, _), (4, _), (5, _), (6, _), (8, _), (35, _)] rfl ?_
    refine wc_false rfl ?_
    refine wc_skip ?_
    refine qe_then ?_
    refine wc_seq ?_
    refine wc_plain [(0, .x true), (1, .x true), (2, .x true), (3, .x true)] (by kernel_rfl) ?_
    refine ws_l rfl rfl rfl rfl (rd_move rfl) ?_
    refine ws_l rfl rfl rfl rfl (rd_move rfl) ?_
    refine ws_call rfl rfl rfl rfl rfl (En.go) (fun w hp hn ho => path_ref v3 ν3 own hown.src (by omega) hok.nd i x hx w (hp.mono SubH.mem) (SubH.nd hn)) (fun _ h => by cases h) (fun hh q h => by first | (cases h; done) | exact hh q h) ?_
    rintro v77 wa wb hpo hon hon2 hp1 ⟨pout, g11, ν11, rfl, hown11, hν11, hpm, hpall⟩
    refine ⟨ν11, hν11, hown11.nd, fun b hb => .inl (hown11.far b hb), ?_⟩
    replace hown11 := hown11.mono hon.size
    refine ws_l rfl rfl rfl rfl (rd_assign rfl) ?_
    refine ws_nil ?_
    refine qe_then ?_
    refine wc_seq ?_
    refine wc_plain [(0, .x true), (1, .x true), (2, .x true), (3, .x true), (4, .x true), (5, .x true), (6, .x true), (7, .x true), (8, .x true)] (by kernel_rfl) ?_
    refine ws_l rfl rfl rfl rfl (rd_move rfl) ?_
    refine ws_l rfl rfl rfl rfl (rd_load rfl) ?_
    by_cases hP : 0 < (pathI own x.id).length
    ·
      have hpl : pout.length = (pathI own x.id).length := by rw [← hpm, List.length_map]
      obtain ⟨q, hq⟩ := at_ex (l := pout) (j := pout.length - 1) (by omega)
      have hz : (pathI own x.id)[(pathI own x.id).length - 1]? = some q.2.id := by rw [← hpl, ← hpm]; simp [hq]
      obtain ⟨gA11, gn11, gc11⟩ := g11
      obtain ⟨q11, cap11, cur11, hv11, rfl, hq11, hcap11, hcur11⟩ := OwnR.opened hown11 (by omega)
      simp only [Value.slice.injEq] at hv11
      obtain ⟨rfl, rfl, rfl⟩ := hv11
      have atq : GetAt cur11 ((pout.length - 1) * 1) (I (q.1 : Nat)) := ix_get hcur11 hq
      have hlq := hpall q (List.mem_of_getElem? hq)
      have hql := (List.getElem?_eq_some_iff.1 hlq).1
      have hsrcO := hown.src
      obtain ⟨gvO, hgvO, -⟩ := OwnR.gv hown
      obtain ⟨bv, ov, cv, csv, Ev, frv, hvO, hmv, hcv⟩ := Src.opened hsrcO (by omega)
      have hmiv : HM bv (.cells csv Ev frv) ν3 := ⟨hmv⟩
      have atqr : AtR csv (ov + q.1 * 82) q.2 := at_r hcv hlq
      refine ws_callp rfl rfl rfl rfl rfl (En.go) (fun w hp hn ho => by have h := end_ret p m k es ws c d L W own νs hL hW hok (by omega) x.id w (hp.mono SubH.mem) (SubH.nd hn); rwa [decide_eq_true hP, lastD_at hz] at h) ?_
      refine ws_l rfl rfl rfl rfl (rd_move rfl) ?_
      refine ws_l rfl rfl rfl rfl (rd_extract rfl) ?_
      refine ws_l rfl rfl rfl rfl (rd_extract rfl) ?_
      refine ws_alloc rfl rfl rfl ?_
      intro b12 hb12
      refine ws_store rfl rfl rfl rfl (by first | exact .inl (by assumption) | exact .inr (by simp)) (fun _ h _ => by first | (cases h; done) | exact List.mem_cons_of_mem _ h | exact List.mem_cons_of_mem _ (List.mem_cons_of_mem _ h) | (simp at h ⊢; simp [h])) ?_
      refine ws_l rfl rfl rfl rfl (rd_assign rfl) ?_
      refine ws_nil ?_
      refine qe_then ?_
      refine wc_keep [(3, _), (4, _), (5, _), (6, _), (8, _), (11, _), (12, _), (13, _)] rfl ?_
      refine wc_seq ?_
      refine wc_seq ?_
      refine wc_drawn mixedT _ (fun _ h => h) [(0, .r), (1, .r), (2, .r), (3, .r), (4, .r), (5, .r), (6, .r), (7, .r), (8, .r), (9, .r), (10, .r), (11, .r), (12, .r), (13, .r), (14, .r), (15, .r), (16, .r), (17, .r), (18, .r), (19, .r), (20, .r), (21, .r), (22, .r), (23, .r), (24, .r), (25, .r), (26, .r), (27, .r), (28, .r), (29, .r), (30, .r)] (by kernel_rfl) ?_
      refine ws_r rfl rfl rfl rfl (rd_move rfl) ?_
      refine ws_r rfl rfl rfl rfl (rd_move rfl) ?_
      refine ws_r rfl rfl rfl rfl (rd_lenO hown11 rfl Try.underlying66) ?_
      refine ws_r rfl rfl rfl rfl (rd_cmp_t rfl rfl rfl (by simp only [cmpP]; omega)) ?_
      refine ws_r rfl rfl rfl rfl (rd_bneq rfl rfl Try.underlying4 rfl) ?_
      refine ws_r rfl rfl rfl rfl (rd_move rfl) ?_
      refine ws_r rfl rfl rfl rfl (rd_move rfl) ?_
      refine ws_r rfl rfl rfl rfl (rd_move rfl) ?_
      refine ws_r rfl rfl rfl rfl (rd_load rfl) ?_
      refine ws_r rfl rfl rfl rfl (rd_move rfl) ?_
      refine ws_r rfl rfl rfl rfl (rd_move rfl) ?_
      refine ws_r rfl rfl rfl rfl (rd_move rfl) ?_
      refine ws_r rfl rfl rfl rfl (rd_lenO hown11 rfl Try.underlying66) ?_
      refine ws_r rfl rfl rfl rfl (rd_arith ((pout.length - 1 : Nat) : Int) rfl rfl rfl (by have := pathI_len hok.nd x.id; rw [wrap_i64 _ (by omega) (by omega)]; omega)) ?_
      refine ws_r rfl rfl rfl rfl (rd_ix (j := pout.length - 1) rfl rfl Try.underlying66 Try.sizeOf3 (by show _ < pout.length; omega)) ?_
      refine ws_r rfl rfl rfl rfl (rd_load rfl) ?_
      rw [hvO]
      refine ws_r rfl rfl rfl rfl (rd_index (ov + q.1 * 82) rfl rfl Try.underlying22 Try.sizeOf46 ⟨by omega, by omega⟩ (by simp)) ?_
      rw [← hvO]
      refine ws_r rfl rfl rfl rfl (rd_fieldAddr rfl) ?_
      refine ws_r rfl rfl rfl rfl (rd_load rfl) ?_
      refine ws_r rfl rfl rfl rfl (rd_neid_f rfl rfl Try.underlying37 (by kernel_rfl) rfl) ?_
      refine ws_r rfl rfl rfl rfl (rd_pick_t rfl rfl) ?_
      refine ws_r rfl rfl rfl rfl (rd_pick_f rfl rfl) ?_
      refine ws_r rfl rfl rfl rfl (rd_move rfl) ?_
      refine ws_r rfl rfl rfl rfl (rd_move rfl) ?_
      refine ws_r rfl rfl rfl rfl (rd_not rfl) ?_
      refine ws_r rfl rfl rfl rfl (rd_move rfl) ?_
      refine ws_rskip rfl rfl rfl rfl ?_
      refine ws_rskip rfl rfl rfl rfl ?_
      refine ws_rskip rfl rfl rfl rfl ?_
      refine ws_r rfl rfl rfl rfl (rd_pick_f rfl rfl) ?_
      refine ws_r rfl rfl rfl rfl (rd_pick_f rfl rfl) ?_
      refine ws_nil ?_
      refine qe_then ?_
      refine wc_keep [(3, _), (4, _), (5, _), (6, _), (8, _), (11, _), (114, _)] rfl ?_
      refine wc_false rfl ?_
      refine wc_skip ?_
      refine qe_then ?_
      refine wc_seq ?_
      refine wc_plain [(0, .x true), (1, .x true), (2, .x true), (3, .x true), (4, .x true), (5, .x true), (6, .x true), (7, .x true), (8, .x true), (9, .x true), (10, .x true), (11, .x true), (12, .x true), (13, .x true), (14, .x true), (15, .x true), (16, .x true), (17, .x true), (18, .x true), (19, .x true), (20, .x true), (21, .x true), (22, .x true), (23, .x true), (24, .x true), (25, .x true), (26, .x true), (27, .x true), (28, .x true), (29, .x true), (30, .x true), (31, .x true), (32, .x true), (33, .x true)] (by kernel_rfl) ?_
      refine ws_l rfl rfl rfl rfl (rd_move rfl) ?_
      refine ws_l rfl rfl rfl rfl (rd_load rfl) ?_
      refine ws_callp rfl rfl rfl rfl rfl (En.go) (fun w hp hn ho => by have h := has_ret p m k es ws c d L W own νs hL hW hok (by omega) x.id w (hp.mono SubH.mem) (SubH.nd hn); rwa [decide_eq_true ⟨x, hxm, rfl⟩] at h) ?_
      refine ws_l rfl rfl rfl rfl (rd_move rfl) ?_
      refine ws_l rfl rfl rfl rfl (rd_move rfl) ?_
      refine ws_l rfl rfl rfl rfl (rd_load rfl) ?_
      refine ws_callp rfl rfl rfl rfl rfl (En.go) (fun w hp hn ho => wd_ret p m k es ws c d L W own νs hL hW hok (by omega) x.id w (hp.mono SubH.mem) (SubH.nd hn)) ?_
      refine ws_l rfl rfl rfl rfl (rd_move rfl) ?_
      refine ws_l rfl rfl rfl rfl (rd_move rfl) ?_
      refine ws_callp rfl rfl rfl rfl rfl (En.go) (fun w hp hn ho => isend_ref v3 ν3 own hown.src (by omega) i x hx w (hp.mono SubH.mem) (SubH.nd hn)) ?_
      refine ws_l rfl rfl rfl rfl (rd_not rfl) ?_
      refine ws_l rfl rfl rfl rfl (rd_beq_t rfl rfl Try.underlying4 (by rw [wd_nd hok.nd hxm]; simp)) ?_
      refine ws_l rfl rfl rfl rfl (rd_pick_t rfl rfl) ?_
      refine ws_l rfl rfl rfl rfl (rd_move rfl) ?_
      refine ws_l rfl rfl rfl rfl (rd_move rfl) ?_
      refine ws_l rfl rfl rfl rfl (rd_load rfl) ?_
      refine ws_call rfl rfl rfl rfl rfl (En.go) (fun w hp hn ho => path_ret p m k es ws c d L W own νs hL hW hok (by omega) x.id w (hp.mono SubH.mem) (SubH.nd hn)) (fun _ h => by cases h) (fun hh q h => by first | (cases h; done) | exact hh q h) ?_
      rintro v131 wa wb hpo hon hon2 hp1 ⟨g131, ν131, rfl, hown131, hν131⟩
      refine ⟨ν131, hν131, hown131.nd, fun b hb => .inl (hown131.far b hb), ?_⟩
      replace hown131 := hown131.mono hon.size
      refine ws_l rfl rfl rfl rfl (rd_move rfl) ?_
      refine ws_l rfl rfl rfl rfl (rd_move rfl) ?_
      refine ws_call rfl rfl rfl rfl rfl (En.go) (fun w hp hn ho => pick_law v3 (ν3 ++ [(q11, .cells cur11 3 (0, 0))]) own (hown.src.mono (fun q hq => List.mem_append_left _ hq)) (by omega) _ pout (hown11.src.mono (fun q hq => List.mem_append_right _ hq)) hpall (by have := congrArg List.length hpm; have := pathI_len hok.nd x.id; have := succR_len own x; simp at *; omega) w (hp.mono SubH.mem) (SubH.nd hn)) (fun _ h => by cases h) (fun hh q h => by first | (cases h; done) | exact hh q h) ?_
      rintro v134 wa wb hpo hon hon2 hp1 ⟨g134, ν134, rfl, hown134, hν134⟩
      refine ⟨ν134, hν134, hown134.nd, fun b hb => .inl (hown134.far b hb), ?_⟩
      replace hown134 := hown134.mono hon.size
      refine ws_callp rfl rfl rfl rfl rfl (En.go) (fun w hp hn ho => by have h := same_law g131.v g134.v (ν131 ++ ν134) _ _ (hown131.src.mono (fun q hq => List.mem_append_left _ hq)) (hown134.src.mono (fun q hq => List.mem_append_right _ hq)) (by have := pathI_len hok.nd x.id; have := succI_len own x.id; omega) w (hp.mono SubH.mem) (SubH.nd hn); rwa [decide_eq_true (hpm.symm)] at h) ?_
      refine ws_l rfl rfl rfl rfl (rd_pick_t rfl rfl) ?_
      refine ws_l rfl rfl rfl rfl (rd_move rfl) ?_
      refine ws_l rfl rfl rfl rfl (rd_move rfl) ?_
      refine ws_l rfl rfl rfl rfl (rd_load rfl) ?_
      refine ws_call rfl rfl rfl rfl rfl (En.go) (fun w hp hn ho => succ_ret p m k es ws c d L W own νs hL hW hok (by omega) x.id w (hp.mono SubH.mem) (SubH.nd hn)) (fun _ h => by cases h) (fun hh q h => by first | (cases h; done) | exact hh q h) ?_
      rintro v140 wa wb hpo hon hon2 hp1 ⟨g140, ν140, rfl, hown140, hν140⟩
      refine ⟨ν140, hν140, hown140.nd, fun b hb => .inl (hown140.far b hb), ?_⟩
      replace hown140 := hown140.mono hon.size
      refine ws_l rfl rfl rfl rfl (rd_move rfl) ?_
      refine ws_l rfl rfl rfl rfl (rd_move rfl) ?_
      refine ws_l rfl rfl rfl rfl (rd_move rfl) ?_
      refine ws_call rfl rfl rfl rfl rfl (En.go) (fun w hp hn ho => succ_ref v3 ν3 own hown.src (by omega) hok.nd i x hx w (hp.mono SubH.mem) (SubH.nd hn)) (fun _ h => by cases h) (fun hh q h => by first | (cases h; done) | exact hh q h) ?_
      rintro v144 wa wb hpo hon hon2 hp1 ⟨sout, g144, ν144, rfl, hown144, hν144, hsm, hsall⟩
      refine ⟨ν144, hν144, hown144.nd, fun b hb => .inl (hown144.far b hb), ?_⟩
      replace hown144 := hown144.mono hon.size
      refine ws_call rfl rfl rfl rfl rfl (En.go) (fun w hp hn ho => pick_law v3 (ν3 ++ ν144) own (hown.src.mono (fun q hq => List.mem_append_left _ hq)) (by omega) _ sout (hown144.src.mono (fun q hq => List.mem_append_right _ hq)) hsall (by have := congrArg List.length hsm; have := pathI_len hok.nd x.id; have := succR_len own x; simp at *; omega) w (hp.mono SubH.mem) (SubH.nd hn)) (fun _ h => by cases h) (fun hh q h => by first | (cases h; done) | exact hh q h) ?_
      rintro v145 wa wb hpo hon hon2 hp1 ⟨g145, ν145, rfl, hown145, hν145⟩
      refine ⟨ν145, hν145, hown145.nd, fun b hb => .inl (hown145.far b hb), ?_⟩
      replace hown145 := hown145.mono hon.size
      refine ws_callp rfl rfl rfl rfl rfl (En.go) (fun w hp hn ho => by have h := same_law g140.v g145.v (ν140 ++ ν145) _ _ (hown140.src.mono (fun q hq => List.mem_append_left _ hq)) (hown145.src.mono (fun q hq => List.mem_append_right _ hq)) (by have := pathI_len hok.nd x.id; have := succI_len own x.id; omega) w (hp.mono SubH.mem) (SubH.nd hn); rwa [decide_eq_true (by rw [succI_in hok.nd hxm, ← hsm, List.map_map]; rfl)] at h) ?_
      refine ws_l rfl rfl rfl rfl (rd_pick_t rfl rfl) ?_
      refine ws_l rfl rfl rfl rfl (rd_assign rfl) ?_
      refine ws_nil ?_
      refine qe_then ?_
      refine wc_keep [(4, _)] rfl ?_
      refine wc_ret ?_
      refine qe_body _ (.inl rfl) (res1 rfl (RV.tmp rfl)) ?_
      exact ret_end fun w hp hn ho => rfl
    ·
      have hpn : (pathI own x.id) = [] := List.eq_nil_of_length_eq_zero (by omega)
      have hpl : pout.length = 0 := by have h := congrArg List.length hpm; rw [hpn, List.length_map] at h; exact h
      refine ws_callp rfl rfl rfl rfl rfl (En.go) (fun w hp hn ho => by have h := end_ret p m k es ws c d L W own νs hL hW hok (by omega) x.id w (hp.mono SubH.mem) (SubH.nd hn); simpa [hpn, lastD] using h) ?_
      refine ws_l rfl rfl rfl rfl (rd_move rfl) ?_
      refine ws_l rfl rfl rfl rfl (rd_extract rfl) ?_
      refine ws_l rfl rfl rfl rfl (rd_extract rfl) ?_
      refine ws_alloc rfl rfl rfl ?_
      intro b12 hb12
      refine ws_store rfl rfl rfl rfl (by first | exact .inl (by assumption) | exact .inr (by simp)) (fun _ h _ => by first | (cases h; done) | exact List.mem_cons_of_mem _ h | exact List.mem_cons_of_mem _ (List.mem_cons_of_mem _ h) | (simp at h ⊢; simp [h])) ?_
      refine ws_l rfl rfl rfl rfl (rd_assign rfl) ?_
      refine ws_nil ?_
      refine qe_then ?_
      refine wc_keep [(3, _), (4, _), (5, _), (6, _), (8, _), (11, _), (12, _), (13, _)] rfl ?_
      refine wc_seq ?_
      refine wc_seq ?_
      refine wc_drawn mixedT _ (fun _ h => h) [(0, .r), (1, .r), (2, .r), (3, .r), (4, .r), (5, .r), (6, .r), (7, .r), (8, .r), (9, .r), (10, .r), (11, .r), (12, .r), (13, .r), (14, .r), (15, .r), (16, .r), (17, .r), (18, .r), (19, .r), (20, .r), (21, .r), (22, .r), (23, .r), (24, .r), (25, .r), (26, .r), (27, .r), (28, .r), (29, .r), (30, .r)] (by kernel_rfl) ?_
      refine ws_r rfl rfl rfl rfl (rd_move rfl) ?_
      refine ws_r rfl rfl rfl rfl (rd_move rfl) ?_
      refine ws_r rfl rfl rfl rfl (rd_lenO hown11 rfl Try.underlying66) ?_
      refine ws_r rfl rfl rfl rfl (rd_cmp_f rfl rfl rfl (by simp only [cmpP]; omega)) ?_
      refine ws_r rfl rfl rfl rfl (rd_bneq rfl rfl Try.underlying4 rfl) ?_
      refine ws_r rfl rfl rfl rfl (rd_move rfl) ?_
      refine ws_r rfl rfl rfl rfl (rd_move rfl) ?_
      refine ws_r rfl rfl rfl rfl (rd_move rfl) ?_
      refine ws_rskip rfl rfl rfl rfl ?_
      refine ws_rskip rfl rfl rfl rfl ?_
      refine ws_rskip rfl rfl rfl rfl ?_
      refine ws_rskip rfl rfl rfl rfl ?_
      refine ws_rskip rfl rfl rfl rfl ?_
      refine ws_rskip rfl rfl rfl rfl ?_
      refine ws_rskip rfl rfl rfl rfl ?_
      refine ws_rskip rfl rfl rfl rfl ?_
      refine ws_rskip rfl rfl rfl rfl ?_
      refine ws_rskip rfl rfl rfl rfl ?_
      refine ws_rskip rfl rfl rfl rfl ?_
      refine ws_rskip rfl rfl rfl rfl ?_
      refine ws_r rfl rfl rfl rfl (rd_pick_f rfl rfl) ?_
      refine ws_r rfl rfl rfl rfl (rd_pick_f rfl rfl) ?_
      refine ws_r rfl rfl rfl rfl (rd_move rfl) ?_
      refine ws_r rfl rfl rfl rfl (rd_move rfl) ?_
      refine ws_r rfl rfl rfl rfl (rd_not rfl) ?_
      refine ws_r rfl rfl rfl rfl (rd_move rfl) ?_
      refine ws_r rfl rfl rfl rfl (rd_load rfl) ?_
      refine ws_r rfl rfl rfl rfl (rd_build rfl) ?_
      refine ws_r rfl rfl rfl rfl (rd_neid_f rfl rfl Try.underlying38 (by kernel_rfl) rfl) ?_
      refine ws_r rfl rfl rfl rfl (rd_pick_t rfl rfl) ?_
      refine ws_r rfl rfl rfl rfl (rd_pick_f rfl rfl) ?_
      refine ws_nil ?_
      refine qe_then ?_
      refine wc_keep [(3, _), (4, _), (5, _), (6, _), (8, _), (11, _), (114, _)] rfl ?_
      refine wc_false rfl ?_
      refine wc_skip ?_
      refine qe_then ?_
      refine wc_seq ?_
      refine wc_plain [(0, .x true), (1, .x true), (2, .x true), (3, .x true), (4, .x true), (5, .x true), (6, .x true), (7, .x true), (8, .x true), (9, .x true), (10, .x true), (11, .x true), (12, .x true), (13, .x true), (14, .x true), (15, .x true), (16, .x true), (17, .x true), (18, .x true), (19, .x true), (20, .x true), (21, .x true), (22, .x true), (23, .x true), (24, .x true), (25, .x true), (26, .x true), (27, .x true), (28, .x true), (29, .x true), (30, .x true), (31, .x true), (32, .x true), (33, .x true)] (by kernel_rfl) ?_
      refine ws_l rfl rfl rfl rfl (rd_move rfl) ?_
      refine ws_l rfl rfl rfl rfl (rd_load rfl) ?_
      refine ws_callp rfl rfl rfl rfl rfl (En.go) (fun w hp hn ho => by have h := has_ret p m k es ws c d L W own νs hL hW hok (by omega) x.id w (hp.mono SubH.mem) (SubH.nd hn); rwa [decide_eq_true ⟨x, hxm, rfl⟩] at h) ?_
      refine ws_l rfl rfl rfl rfl (rd_move rfl) ?_
      refine ws_l rfl rfl rfl rfl (rd_move rfl) ?_
      refine ws_l rfl rfl rfl rfl (rd_load rfl) ?_
      refine ws_callp rfl rfl rfl rfl rfl (En.go) (fun w hp hn ho => wd_ret p m k es ws c d L W own νs hL hW hok (by omega) x.id w (hp.mono SubH.mem) (SubH.nd hn)) ?_
      refine ws_l rfl rfl rfl rfl (rd_move rfl) ?_
      refine ws_l rfl rfl rfl rfl (rd_move rfl) ?_
      refine ws_callp rfl rfl rfl rfl rfl (En.go) (fun w hp hn ho => isend_ref v3 ν3 own hown.src (by omega) i x hx w (hp.mono SubH.mem) (SubH.nd hn)) ?_
      refine ws_l rfl rfl rfl rfl (rd_not rfl) ?_
      refine ws_l rfl rfl rfl rfl (rd_beq_t rfl rfl Try.underlying4 (by rw [wd_nd hok.nd hxm]; simp)) ?_
      refine ws_l rfl rfl rfl rfl (rd_pick_t rfl rfl) ?_
      refine ws_l rfl rfl rfl rfl (rd_move rfl) ?_
      refine ws_l rfl rfl rfl rfl (rd_move rfl) ?_
      refine ws_l rfl rfl rfl rfl (rd_load rfl) ?_
      refine ws_call rfl rfl rfl rfl rfl (En.go) (fun w hp hn ho => path_ret p m k es ws c d L W own νs hL hW hok (by omega) x.id w (hp.mono SubH.mem) (SubH.nd hn)) (fun _ h => by cases h) (fun hh q h => by first | (cases h; done) | exact hh q h) ?_
      rintro v131 wa wb hpo hon hon2 hp1 ⟨g131, ν131, rfl, hown131, hν131⟩
      refine ⟨ν131, hν131, hown131.nd, fun b hb => .inl (hown131.far b hb), ?_⟩
      replace hown131 := hown131.mono hon.size
      refine ws_l rfl rfl rfl rfl (rd_move rfl) ?_
      refine ws_l rfl rfl rfl rfl (rd_move rfl) ?_
      refine ws_call rfl rfl rfl rfl rfl (En.go) (fun w hp hn ho => pick_law v3 (ν3 ++ ν11) own (hown.src.mono (fun q hq => List.mem_append_left _ hq)) (by omega) _ pout (hown11.src.mono (fun q hq => List.mem_append_right _ hq)) hpall (by have := congrArg List.length hpm; have := pathI_len hok.nd x.id; have := succR_len own x; simp at *; omega) w (hp.mono SubH.mem) (SubH.nd hn)) (fun _ h => by cases h) (fun hh q h => by first | (cases h; done) | exact hh q h) ?_
      rintro v134 wa wb hpo hon hon2 hp1 ⟨g134, ν134, rfl, hown134, hν134⟩
      refine ⟨ν134, hν134, hown134.nd, fun b hb => .inl (hown134.far b hb), ?_⟩
      replace hown134 := hown134.mono hon.size
      refine ws_callp rfl rfl rfl rfl rfl (En.go) (fun w hp hn ho => by have h := same_law g131.v g134.v (ν131 ++ ν134) _ _ (hown131.src.mono (fun q hq => List.mem_append_left _ hq)) (hown134.src.mono (fun q hq => List.mem_append_right _ hq)) (by have := pathI_len hok.nd x.id; have := succI_len own x.id; omega) w (hp.mono SubH.mem) (SubH.nd hn); rwa [decide_eq_true (hpm.symm)] at h) ?_
      refine ws_l rfl rfl rfl rfl (rd_pick_t rfl rfl) ?_
      refine ws_l rfl rfl rfl rfl (rd_move rfl) ?_
      refine ws_l rfl rfl rfl rfl (rd_move rfl) ?_
      refine ws_l rfl rfl rfl rfl (rd_load rfl) ?_
      refine ws_call rfl rfl rfl rfl rfl (En.go) (fun w hp hn ho => succ_ret p m k es ws c d L W own νs hL hW hok (by omega) x.id w (hp.mono SubH.mem) (SubH.nd hn)) (fun _ h => by cases h) (fun hh q h => by first | (cases h; done) | exact hh q h) ?_
      rintro v140 wa wb hpo hon hon2 hp1 ⟨g140, ν140, rfl, hown140, hν140⟩
      refine ⟨ν140, hν140, hown140.nd, fun b hb => .inl (hown140.far b hb), ?_⟩
      replace hown140 := hown140.mono hon.size
      refine ws_l rfl rfl rfl rfl (rd_move rfl) ?_
      refine ws_l rfl rfl rfl rfl (rd_move rfl) ?_
      refine ws_l rfl rfl rfl rfl (rd_move rfl) ?_
      refine ws_call rfl rfl rfl rfl rfl (En.go) (fun w hp hn ho => succ_ref v3 ν3 own hown.src (by omega) hok.nd i x hx w (hp.mono SubH.mem) (SubH.nd hn)) (fun _ h => by cases h) (fun hh q h => by first | (cases h; done) | exact hh q h) ?_
      rintro v144 wa wb hpo hon hon2 hp1 ⟨sout, g144, ν144, rfl, hown144, hν144, hsm, hsall⟩
      refine ⟨ν144, hν144, hown144.nd, fun b hb => .inl (hown144.far b hb), ?_⟩
      replace hown144 := hown144.mono hon.size
      refine ws_call rfl rfl rfl rfl rfl (En.go) (fun w hp hn ho => pick_law v3 (ν3 ++ ν144) own (hown.src.mono (fun q hq => List.mem_append_left _ hq)) (by omega) _ sout (hown144.src.mono (fun q hq => List.mem_append_right _ hq)) hsall (by have := congrArg List.length hsm; have := pathI_len hok.nd x.id; have := succR_len own x; simp at *; omega) w (hp.mono SubH.mem) (SubH.nd hn)) (fun _ h => by cases h) (fun hh q h => by first | (cases h; done) | exact hh q h) ?_
      rintro v145 wa wb hpo hon hon2 hp1 ⟨g145, ν145, rfl, hown145, hν145⟩
      refine ⟨ν145, hν145, hown145.nd, fun b hb => .inl (hown145.far b hb), ?_⟩
      replace hown145 := hown145.mono hon.size
      refine ws_callp rfl rfl rfl rfl rfl (En.go) (fun w hp hn ho => by have h := same_law g140.v g145.v (ν140 ++ ν145) _ _ (hown140.src.mono (fun q hq => List.mem_append_left _ hq)) (hown145.src.mono (fun q hq => List.mem_append_right _ hq)) (by have := pathI_len hok.nd x.id; have := succI_len own x.id; omega) w (hp.mono SubH.mem) (SubH.nd hn); rwa [decide_eq_true (by rw [succI_in hok.nd hxm, ← hsm, List.map_map]; rfl)] at h) ?_
      refine ws_l rfl rfl rfl rfl (rd_pick_t rfl rfl) ?_
      refine ws_l rfl rfl rfl rfl (rd_assign rfl) ?_
      refine ws_nil ?_
      refine qe_then ?_
      refine wc_keep [(4, _)] rfl ?_
      refine wc_ret ?_
      refine qe_body _ (.inl rfl) (res1 rfl (RV.tmp rfl)) ?_
      exact ret_end fun w hp hn ho => rfl

end Go.Proofs.Ytaagmgpfpaanlaa
