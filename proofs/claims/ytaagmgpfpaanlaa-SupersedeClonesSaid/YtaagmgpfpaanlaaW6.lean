/- Walks: Check, of. No conditions. -/
import Derived.Test.YtaagmgpfpaanlaaChk
import Derived.Test.YtaagmgpfpaanlaaW5
namespace Go.Proofs.Ytaagmgpfpaanlaa
open Go Go.RowKit Go.Sx
set_option linter.unusedSimpArgs false
set_option linter.unusedVariables false

set_option maxRecDepth 100000 in
set_option maxHeartbeats 1000000 in
theorem check_ret (v : Value) (φ : Heap) (hs : List HR) (hsrc : Src φ v 83 hs.length (hs.flatMap hrL)) (hlen : hs.length < 100) (hgs : ∀ x ∈ hs, GOK φ x.g x.r.grp) (w : World) (hφ : HpOK φ w) (hnd : (φ.map Prod.fst).Nodup) : Ret Try.prog 66 [v] w [] (fun u _ => ∃ i, u = .tuple #[I i, I (chkE (hs.map HR.r))]) := by
  refine enter (n := 33) (args := [v]) [] φ Try.func66 rfl rfl rfl hφ hnd ?_
  refine wc_seq ?_
  refine wc_plain [(0, .x true), (1, .x true)] (by kernel_rfl) ?_
  refine ws_l rfl rfl rfl rfl (rd_assign rfl) ?_
  refine ws_l rfl rfl rfl rfl (rd_assign rfl) ?_
  refine ws_nil ?_
  refine qe_then ?_
  refine wc_seq ?_
  refine wc_seq ?_
  refine wc_plain [(0, .x true), (1, .x true), (2, .x true)] (by kernel_rfl) ?_
  refine ws_l rfl rfl rfl rfl (rd_move rfl) ?_
  refine ws_l rfl rfl rfl rfl (rd_lenS hsrc rfl Try.underlying23) ?_
  refine ws_l rfl rfl rfl rfl (rd_cmp_f rfl rfl rfl (by simp only [cmpP]; omega)) ?_
  refine ws_nil ?_
  refine qe_then ?_
  refine wc_false rfl ?_
  refine wc_skip ?_
  refine qe_then ?_
  refine wc_seq ?_
  refine wc_plain [(0, .x true), (1, .x true)] (by kernel_rfl) ?_
  refine ws_makeMap rfl rfl rfl ?_
  intro b10 hb10
  refine ws_l rfl rfl rfl rfl (rd_assign rfl) ?_
  refine ws_nil ?_
  refine qe_then ?_
  refine wc_seq ?_
  refine wc_seq ?_
  refine wc_plain [(0, .x true), (1, .x true), (2, .x true)] (by kernel_rfl) ?_
  refine ws_l rfl rfl rfl rfl (rd_move rfl) ?_
  refine ws_l rfl rfl rfl rfl (rd_lenS hsrc rfl Try.underlying23) ?_
  refine ws_l rfl rfl rfl rfl (rd_move rfl) ?_
  refine ws_nil ?_
  refine qe_then ?_
  refine wc_keep [(2, _), (3, _), (4, _), (11, _), (12, _), (13, _)] rfl ?_
  refine wc_block ?_
  refine wc_loop (fun mz ac w1 => ∃ (j : Nat) (es : Array MapEntry) (c : Nat) (S : List (Id × Bool)), mz = hs.length - j ∧ (j ≤ hs.length) ∧ (MapIs idK bK es c S) ∧ (S = ((hs.take j).map HR.r).map fun x => (x.id, true)) ∧ (chkG ((hs.take j).map HR.r) ((hs.drop j).map HR.r) = chkE (hs.map HR.r)) ∧ St 33 w [] [(4, .map (some b10)), (11, v), (12, I hs.length), (13, I j)] ((b10, .map es c) :: φ) ac w1) _ (fun ac w1 hs => ⟨0, #[], 0, [], rfl, (by omega), (MapIs.empty _ _ _), (by simp), (by simp [chkE]), st_sub hs _ rfl⟩) ?_
  rintro _ ac1 wl1 ⟨j, es, c, S, rfl, hj, hS, hSe, hf, hs1⟩
  refine wc_at hs1 ?_
  refine wc_seq ?_
  refine wc_plain [(0, .x true)] (by kernel_rfl) ?_
  refine ws_lcmp rfl rfl rfl (rfl) (rfl) (rfl) ?_ ?_
  · intro h14
    refine ws_nil ?_
    refine qe_then ?_
    refine wc_seq ?_
    refine wc_true rfl ?_
    refine wc_skip ?_
    refine qe_then ?_
    refine wc_seq ?_
    refine wc_block ?_
    refine wc_seq ?_
    refine wc_plain [(0, .x true), (1, .x true), (2, .x true), (3, .x true), (4, .x true), (5, .x true)] (by kernel_rfl) ?_
    refine ws_l rfl rfl rfl rfl (rd_move rfl) ?_
    obtain ⟨bv, ov, cv, csv, Ev, frv, rfl, hmv, hcv⟩ := Src.opened hsrc (by omega)
    have hmiv : HM bv (.cells csv Ev frv) φ := ⟨hmv⟩
    obtain ⟨x, hx⟩ := at_ex (l := hs) (j := j) (by omega)
    have atx : AtW csv (ov + j * 83) x.r x.g := at_w hcv hx
    refine ws_l rfl rfl rfl rfl (rd_index (ov + j * 83) rfl rfl Try.underlying23 Try.sizeOf43 ⟨by omega, by omega⟩ (by simp)) ?_
    refine ws_l rfl rfl rfl rfl (rd_load rfl) ?_
    refine ws_alloc rfl rfl rfl ?_
    intro b6 hb6
    refine ws_l rfl rfl rfl rfl (rd_assign rfl) ?_
    refine ws_store rfl rfl rfl rfl (by first | exact .inl (by assumption) | exact .inr (by simp)) (fun _ h _ => by first | (cases h; done) | exact List.mem_cons_of_mem _ h | exact List.mem_cons_of_mem _ (List.mem_cons_of_mem _ h) | (simp at h ⊢; simp [h])) ?_
    refine ws_nil ?_
    refine qe_then ?_
    refine wc_seq ?_
    refine wc_block ?_
    refine wc_seq ?_
    refine wc_plain [(0, .x true), (1, .x true), (2, .x true), (3, .x true)] (by kernel_rfl) ?_
    refine ws_l rfl rfl rfl rfl (rd_load rfl) ?_
    refine ws_callb (decide _) rfl rfl rfl rfl rfl (En.go) (fun w hp hn ho => date_ret x.r x.g w) ?_ ?_
    · intro hdate
      have hdate := of_decide_eq_true hdate
      refine ws_l rfl rfl rfl rfl (rd_not rfl) ?_
      refine ws_l rfl rfl rfl rfl (rd_assign rfl) ?_
      refine ws_nil ?_
      refine qe_then ?_
      refine wc_false rfl ?_
      refine wc_seq ?_
      refine wc_plain [(0, .x true), (1, .x true), (2, .x true), (3, .x true), (4, .x true)] (by kernel_rfl) ?_
      refine ws_l rfl rfl rfl rfl (rd_move rfl) ?_
      refine ws_l rfl rfl rfl rfl (rd_fieldAddr rfl) ?_
      refine ws_l rfl rfl rfl rfl (rd_load rfl) ?_
      by_cases hseen : ∃ y ∈ (hs.take j).map HR.r, y.id = x.r.id
      ·
        refine ws_l rfl rfl rfl rfl (rd_look_some (c := false) (ek := idK) (en := bK) Try.underlying89 hS (by rw [hSe]; exact seen_some hseen) rfl rfl) ?_
        refine ws_l rfl rfl rfl rfl (rd_assign rfl) ?_
        refine ws_nil ?_
        refine qe_then ?_
        refine wc_true rfl ?_
        refine wc_seq ?_
        refine wc_plain [(0, .x true), (1, .x true), (2, .x true)] (by kernel_rfl) ?_
        refine ws_l rfl rfl rfl rfl (rd_move rfl) ?_
        refine ws_l rfl rfl rfl rfl (rd_assign rfl) ?_
        refine ws_l rfl rfl rfl rfl (rd_assign rfl) ?_
        refine ws_nil ?_
        refine qe_then ?_
        refine wc_ret ?_
        refine qe_block_ret ?_
        refine qe_then_ret ?_
        refine qe_block_ret ?_
        refine qe_then_ret ?_
        refine qe_then_ret ?_
        refine qe_block_ret ?_
        refine qe_then_ret ?_
        refine qe_body _ (.inl rfl) (res2 rfl (RV.tmp rfl) (RV.tmp rfl)) ?_
        exact ret_end fun w hp hn ho => ⟨_, by rw [← hf, drop_at hx, List.map_cons, chkG, if_pos hdate, if_pos hseen]⟩
      ·
        refine ws_l rfl rfl rfl rfl (rd_look_none (c := false) (ek := idK) (en := bK) Try.underlying89 hS zero4 (by rw [hSe]; exact seen_none hseen) rfl rfl) ?_
        refine ws_l rfl rfl rfl rfl (rd_assign rfl) ?_
        refine ws_nil ?_
        refine qe_then ?_
        refine wc_false rfl ?_
        refine wc_skip ?_
        refine qe_block ?_
        refine qe_then ?_
        refine wc_plain [(0, .x true), (1, .x true), (2, .x true), (3, .x true)] (by kernel_rfl) ?_
        refine ws_l rfl rfl rfl rfl (rd_move rfl) ?_
        refine ws_l rfl rfl rfl rfl (rd_fieldAddr rfl) ?_
        refine ws_l rfl rfl rfl rfl (rd_load rfl) ?_
        refine ws_update (ek := idK) (en := bK) (a := x.r.id) (b := true) Try.underlying89 hS rfl rfl rfl rfl rfl (.inl hb10) ?_
        intro es2 c2 hL2
        refine ws_nil ?_
        refine qe_block ?_
        refine qe_then ?_
        refine wc_plain [(0, .x true), (1, .x true)] (by kernel_rfl) ?_
        refine ws_l rfl rfl rfl rfl (rd_arith (((j + 1 : Nat) : Int)) rfl rfl rfl (by rw [wrap_i64 _ (by omega) (by omega)]; omega)) ?_
        refine ws_l rfl rfl rfl rfl (rd_move rfl) ?_
        refine ws_nil ?_
        exact qe_loop fun ac2 w2 hs2 => ⟨_, by omega, j + 1, es2, c2, _, rfl, (by omega), (hL2), (by rw [upd_new (by rw [hSe]; exact seen_none hseen), hSe, take_at hx]; simp), (by rw [← hf, drop_at hx, List.map_cons, chkG, if_pos hdate, if_neg hseen, take_at hx]; simp), st_sub hs2 _ rfl⟩
    · intro hdate
      have hdate := of_decide_eq_false hdate
      refine ws_l rfl rfl rfl rfl (rd_not rfl) ?_
      refine ws_l rfl rfl rfl rfl (rd_assign rfl) ?_
      refine ws_nil ?_
      refine qe_then ?_
      refine wc_true rfl ?_
      refine wc_seq ?_
      refine wc_plain [(0, .x true), (1, .x true), (2, .x true)] (by kernel_rfl) ?_
      refine ws_l rfl rfl rfl rfl (rd_move rfl) ?_
      refine ws_l rfl rfl rfl rfl (rd_assign rfl) ?_
      refine ws_l rfl rfl rfl rfl (rd_assign rfl) ?_
      refine ws_nil ?_
      refine qe_then ?_
      refine wc_ret ?_
      refine qe_block_ret ?_
      refine qe_then_ret ?_
      refine qe_block_ret ?_
      refine qe_then_ret ?_
      refine qe_then_ret ?_
      refine qe_block_ret ?_
      refine qe_then_ret ?_
      refine qe_body _ (.inl rfl) (res2 rfl (RV.tmp rfl) (RV.tmp rfl)) ?_
      exact ret_end fun w hp hn ho => ⟨_, by rw [← hf, drop_at hx, List.map_cons, chkG, if_neg hdate]⟩
  · intro h14
    refine ws_nil ?_
    refine qe_then ?_
    refine wc_seq ?_
    refine wc_false rfl ?_
    refine wc_exit ?_
    refine qe_then_exit ?_
    refine qe_then_exit ?_
    refine qe_block_exit ?_
    refine qe_then ?_
    refine wc_keep [] rfl ?_
    refine wc_seq ?_
    refine wc_plain [(0, .x true), (1, .x true)] (by kernel_rfl) ?_
    refine ws_l rfl rfl rfl rfl (rd_assign rfl) ?_
    refine ws_l rfl rfl rfl rfl (rd_assign rfl) ?_
    refine ws_nil ?_
    refine qe_then ?_
    refine wc_ret ?_
    refine qe_body _ (.inl rfl) (res2 rfl (RV.tmp rfl) (RV.tmp rfl)) ?_
    exact ret_end fun w hp hn ho => ⟨_, by rw [← hf, List.drop_eq_nil_of_le (by omega)]; rfl⟩
theorem fresh_at {hs : List HR} {j : Nat} {x : HR} (hn : ((hs.map HR.r).map RR.id).Nodup) (hx : hs[j]? = some x) {y : RR} (hy : y ∈ (hs.take j).map HR.r) (he : y.id = x.r.id) : False := by
  have h1 : hs = hs.take j ++ hs.drop j := (List.take_append_drop j hs).symm
  rw [h1, List.map_append, List.map_append, List.nodup_append] at hn
  refine hn.2.2 y.id (List.mem_map.2 ⟨y, hy, rfl⟩) x.r.id ?_ he
  rw [drop_at hx]
  simp
set_option maxRecDepth 100000 in
set_option maxHeartbeats 1000000 in
theorem of_ret (v : Value) (φ : Heap) (hs : List HR) (hsrc : Src φ v 83 hs.length (hs.flatMap hrL)) (hlen : hs.length < 100) (hgs : ∀ x ∈ hs, GOK φ x.g x.r.grp) (w : World) (hφ : HpOK φ w) (hnd : (φ.map Prod.fst).Nodup) : Ret Try.prog 39 [v] w [] (fun u w' => ∃ s, u = .tuple #[s, I (chkE (hs.map HR.r))] ∧ ((chkE (hs.map HR.r) = 0 ∧ SetNew φ (hs.map HR.r) w w' s) ∨ (chkE (hs.map HR.r) ≠ 0 ∧ s = .pointer none))) := by
  refine enter (n := 29) (args := [v]) [] φ Try.func39 rfl rfl rfl hφ hnd ?_
  refine wc_seq ?_
  refine wc_plain [(0, .x true), (1, .x true)] (by kernel_rfl) ?_
  refine ws_l rfl rfl rfl rfl (rd_assign rfl) ?_
  refine ws_l rfl rfl rfl rfl (rd_assign rfl) ?_
  refine ws_nil ?_
  refine qe_then ?_
  refine wc_seq ?_
  refine wc_seq ?_
  refine wc_plain [(0, .x true), (1, .x true), (2, .x true), (3, .x true), (4, .x true), (5, .x true), (6, .x true)] (by kernel_rfl) ?_
  refine ws_l rfl rfl rfl rfl (rd_move rfl) ?_
  refine ws_call rfl rfl rfl rfl rfl (En.go) (fun w hp hn ho => check_ret v φ hs hsrc hlen hgs w hp hn) (fun _ h => by cases h) (fun hh q h => by first | (cases h; done) | exact hh q h) ?_
  rintro v11 wa wb hpo hon hon2 hp1 ⟨i0, rfl⟩
  refine ⟨[], HpOK.nil _, by simp, by simp, ?_⟩
  refine ws_l rfl rfl rfl rfl (rd_move rfl) ?_
  refine ws_l rfl rfl rfl rfl (rd_extract rfl) ?_
  refine ws_l rfl rfl rfl rfl (rd_extract rfl) ?_
  refine ws_l rfl rfl rfl rfl (rd_assign rfl) ?_
  refine ws_l rfl rfl rfl rfl (rd_assign rfl) ?_
  refine ws_nil ?_
  refine qe_then ?_
  refine wc_keep [(0, _), (2, _), (3, _), (5, _)] rfl ?_
  refine wc_seq ?_
  refine wc_plain [(0, .x true), (1, .x true)] (by kernel_rfl) ?_
  refine ws_l rfl rfl rfl rfl (rd_move rfl) ?_
  by_cases hchk : chkE (hs.map HR.r) = 0
  ·
    refine ws_l rfl rfl rfl rfl (rd_cmp_f rfl rfl rfl (by simp only [cmpP]; omega)) ?_
    refine ws_nil ?_
    refine qe_then ?_
    refine wc_false rfl ?_
    refine wc_skip ?_
    refine qe_then ?_
    refine wc_seq ?_
    refine wc_plain [(0, .x true), (1, .x true)] (by kernel_rfl) ?_
    refine ws_call rfl rfl rfl rfl rfl (En.go) (fun w hp hn ho => new_ret w) (fun _ h => by cases h) (fun hh q h => by first | (cases h; done) | exact hh q h) ?_
    rintro v17 wa wb hpo hon hon2 hp1 ⟨p, m, k, rfl, hpb, hmb, hkb, hpmk, hset⟩
    refine ⟨_, hset, by simpa using hpmk, fun b hb => .inl (by simp at hb; rcases hb with rfl | rfl | rfl; exact hpb; exact hmb; exact hkb), ?_⟩
    replace hpb := Nat.le_trans hon.size hpb
    replace hmb := Nat.le_trans hon.size hmb
    replace hkb := Nat.le_trans hon.size hkb
    simp only [List.cons_append, List.nil_append]
    refine ws_l rfl rfl rfl rfl (rd_assign rfl) ?_
    refine ws_nil ?_
    refine qe_then ?_
    refine wc_seq ?_
    refine wc_seq ?_
    refine wc_plain [(0, .x true), (1, .x true), (2, .x true)] (by kernel_rfl) ?_
    refine ws_l rfl rfl rfl rfl (rd_move rfl) ?_
    refine ws_l rfl rfl rfl rfl (rd_lenS hsrc rfl Try.underlying23) ?_
    refine ws_l rfl rfl rfl rfl (rd_move rfl) ?_
    refine ws_nil ?_
    refine qe_then ?_
    refine wc_keep [(2, _), (3, _), (6, _), (18, _), (19, _), (20, _)] rfl ?_
    refine wc_block ?_
    refine wc_loop (fun mz ac w1 => ∃ (j : Nat) (es : Array MapEntry) (c : Nat) (ws : Array MapEntry) (d : Nat) (L : RMap) (W : WMap) (νs : Heap), mz = hs.length - j ∧ (j ≤ hs.length) ∧ (MapIs idK hrK es c L) ∧ (MapIs idK wvK ws d W) ∧ (SetOK (νs ++ φ) L W ((hs.take j).map HR.r)) ∧ (∀ b ∈ νs.map Prod.fst, w.heap.size ≤ b) ∧ St 29 w [] [(6, ptr p), (18, v), (19, I hs.length), (20, I j)] (setC p m k es c ws d (νs ++ φ)) ac w1) _ (fun ac w1 hs => ⟨0, #[], 0, #[], 0, [], [], [], rfl, (by omega), (MapIs.empty _ _ _), (MapIs.empty _ _ _), (by simpa using SetOK.empty _), (by simp), st_sub hs _ rfl⟩) ?_
    rintro _ ac1 wl1 ⟨j, es, c, ws, d, L, W, νs, rfl, hj, hL, hW, hok, hfs, hs1⟩
    refine wc_at hs1 ?_
    refine wc_seq ?_
    refine wc_plain [(0, .x true)] (by kernel_rfl) ?_
    refine ws_lcmp rfl rfl rfl (rfl) (rfl) (rfl) ?_ ?_
    · intro h21
      refine ws_nil ?_
      refine qe_then ?_
      refine wc_seq ?_
      refine wc_true rfl ?_
      refine wc_skip ?_
      refine qe_then ?_
      refine wc_seq ?_
      refine wc_block ?_
      refine wc_seq ?_
      refine wc_plain [(0, .x true), (1, .x true), (2, .x true), (3, .x true)] (by kernel_rfl) ?_
      obtain ⟨bv, ov, cv, csv, Ev, frv, rfl, hmv, hcv⟩ := Src.opened hsrc (by omega)
      have hmiv : HM bv (.cells csv Ev frv) φ := ⟨hmv⟩
      obtain ⟨x, hx⟩ := at_ex (l := hs) (j := j) (by omega)
      have atx : AtW csv (ov + j * 83) x.r x.g := at_w hcv hx
      refine ws_l rfl rfl rfl rfl (rd_index (ov + j * 83) rfl rfl Try.underlying23 Try.sizeOf43 ⟨by omega, by omega⟩ (by simp)) ?_
      refine ws_l rfl rfl rfl rfl (rd_load rfl) ?_
      refine ws_alloc rfl rfl rfl ?_
      intro b8 hb8
      refine ws_store rfl rfl rfl rfl (by first | exact .inl (by assumption) | exact .inr (by simp)) (fun _ h _ => by first | (cases h; done) | exact List.mem_cons_of_mem _ h | exact List.mem_cons_of_mem _ (List.mem_cons_of_mem _ h) | (simp at h ⊢; simp [h])) ?_
      refine ws_nil ?_
      refine qe_then ?_
      refine wc_plain [(0, .x true), (1, .x true), (2, .x true)] (by kernel_rfl) ?_
      refine ws_l rfl rfl rfl rfl (rd_move rfl) ?_
      refine ws_l rfl rfl rfl rfl (rd_load rfl) ?_
      have hmem : x ∈ hs := List.mem_of_getElem? hx
      have hfr : mlook L x.r.id = none := by cases hl : mlook L x.r.id with | none => rfl | some y => exact absurd (hok.look hl) (fun h => fresh_at (chkE_nd hchk).1 hx h.1 h.2.1)
      refine ws_call rfl rfl rfl rfl rfl (En.go) (fun w hp hn ho => put_ret p m k es ws c d L W ((hs.take j).map HR.r) (νs ++ φ) hL hW hok (by simp; omega) x.r x.g ((hgs x hmem).mono (fun q hq => List.mem_append_right _ hq)) hfr w (hp.mono SubH.mem) (SubH.nd hn)) (fun b hb => by simp only [List.mem_cons, List.not_mem_nil, or_false] at hb; rcases hb with rfl | rfl; exact .inl hmb; exact .inl hkb) (fun hh q h => by first | (cases h; done) | exact hh q h) ?_
      rintro v26 wa wb hpo hon hon2 hp1 ⟨es1, c1, ws1, d1, L1, W1, ν1, hp2, hnd2, hfar2, hL1, hW1, hok1⟩
      refine ⟨(m, .map es1 c1) :: (k, .map ws1 d1) :: ν1, hp2, hnd2, fun b hb => by simp only [List.map_cons, List.mem_cons] at hb; rcases hb with rfl | rfl | hb; exact .inr (by simp); exact .inr (by simp); exact .inl (hfar2 b hb), ?_⟩
      simp only [List.cons_append]
      replace hfar2 : ∀ b ∈ ν1.map Prod.fst, _ ≤ b := fun b hb => Nat.le_trans hon.size (hfar2 b hb)
      refine ws_nil ?_
      refine qe_block ?_
      refine qe_then ?_
      refine wc_plain [(0, .x true), (1, .x true)] (by kernel_rfl) ?_
      refine ws_l rfl rfl rfl rfl (rd_arith (((j + 1 : Nat) : Int)) rfl rfl rfl (by rw [wrap_i64 _ (by omega) (by omega)]; omega)) ?_
      refine ws_l rfl rfl rfl rfl (rd_move rfl) ?_
      refine ws_nil ?_
      exact qe_loop fun ac2 w2 hs2 => ⟨_, by omega, j + 1, es1, c1, ws1, d1, L1, W1, ν1 ++ νs, rfl, (by omega), (hL1), (hW1), (by rw [take_at hx, List.map_append, List.append_assoc]; exact hok1), (fun b hb => by rw [List.map_append, List.mem_append] at hb; exact hb.elim (hfar2 b) (hfs b)), st_sub hs2 _ rfl⟩
    · intro h21
      refine ws_nil ?_
      refine qe_then ?_
      refine wc_seq ?_
      refine wc_false rfl ?_
      refine wc_exit ?_
      refine qe_then_exit ?_
      refine qe_then_exit ?_
      refine qe_block_exit ?_
      refine qe_then ?_
      refine wc_seq ?_
      refine wc_plain [(0, .x true), (1, .x true), (2, .x true)] (by kernel_rfl) ?_
      refine ws_l rfl rfl rfl rfl (rd_move rfl) ?_
      refine ws_l rfl rfl rfl rfl (rd_assign rfl) ?_
      refine ws_l rfl rfl rfl rfl (rd_assign rfl) ?_
      refine ws_nil ?_
      refine qe_then ?_
      refine wc_keep [(2, _), (3, _)] rfl ?_
      refine wc_ret ?_
      refine qe_body _ (.inl rfl) (res2 rfl (RV.tmp rfl) (RV.tmp rfl)) ?_
      exact ret_end fun w hp hn ho => ⟨_, by rw [hchk], .inl ⟨hchk, p, m, k, es, c, ws, d, L, W, νs, rfl, (hp.mono SubH.mem), SubH.nd hn, fun b hb => by simp only [List.map_cons, List.mem_cons] at hb; rcases hb with rfl | rfl | rfl | hb; exact hpb; exact hmb; exact hkb; exact hfs b hb, hL, hW, by rw [List.take_of_length_le (by omega)] at hok; exact hok⟩⟩
  ·
    refine ws_l rfl rfl rfl rfl (rd_cmp_t rfl rfl rfl (by simp only [cmpP]; omega)) ?_
    refine ws_nil ?_
    refine qe_then ?_
    refine wc_true rfl ?_
    refine wc_seq ?_
    refine wc_plain [(0, .x true), (1, .x true), (2, .x true)] (by kernel_rfl) ?_
    refine ws_l rfl rfl rfl rfl (rd_move rfl) ?_
    refine ws_l rfl rfl rfl rfl (rd_assign rfl) ?_
    refine ws_l rfl rfl rfl rfl (rd_assign rfl) ?_
    refine ws_nil ?_
    refine qe_then ?_
    refine wc_ret ?_
    refine qe_then_ret ?_
    refine qe_body _ (.inl rfl) (res2 rfl (RV.tmp rfl) (RV.tmp rfl)) ?_
    exact ret_end fun w hp hn ho => ⟨_, rfl, .inr ⟨hchk, rfl⟩⟩

end Go.Proofs.Ytaagmgpfpaanlaa
