/- Walks: the laws' helpers: build, chain, chains. No conditions. -/
import Derived.Test.YtheioljidangkaaGreatW18
namespace Go.Proofs.YtheioljidangkaaGreat
open Go Go.RowKit Go.Sx
set_option linter.unusedSimpArgs false
set_option linter.unusedVariables false

def BuiltTo (own : List RK) (w : World) (u : Value) (w' : World) : Prop := ∃ (p m k : Nat) (es : Array MapEntry) (c : Nat) (ws : Array MapEntry) (d : Nat) (L : RMap) (W : WMap) (v8 : Value) (νl : Heap), u = .tuple #[ptr p, v8, .bool true] ∧
  HpOK (ringP p m k :: (ringT m k es c ws d (facts W) ++ νl)) w' ∧ ((ringP p m k :: (ringT m k es c ws d (facts W) ++ νl)).map Prod.fst).Nodup ∧ (∀ b ∈ (ringP p m k :: (ringT m k es c ws d (facts W) ++ νl)).map Prod.fst, w.heap.size ≤ b) ∧
  MapIs (idK (n := 32)) rkK es c L ∧ MapIs plE pvE ws d W ∧ RingOK L W own ∧ OwnR w.heap.size 53 84 v8 νl own.length (own.flatMap rkL)
instance (η : Heap) : PickA (facts []) η η := ⟨List.Perm.refl _⟩
theorem take_min {α : Type} {l : List α} {j n : Nat} (h1 : j ≤ n) (h : ¬ j < l.length ∨ ¬ j < n) : l.take j = l.take n := by
  rcases h with h | h
  · rw [List.take_of_length_le (by omega), List.take_of_length_le (by omega)]
  · rw [show j = n by omega]
theorem u8_conv {i : Nat} (h : i < 256) : IntKind.u8.wrap ((i : Nat) : Int) = (((UInt8.ofNat i).toNat : Nat) : Int) := by
  simp only [UInt8.toNat_ofNat']
  simp [IntKind.wrap, IntKind.bits, IntKind.signed]
set_option maxRecDepth 100000 in
set_option maxHeartbeats 4000000 in
theorem build_law (v : Value) (φ : Heap) (ms : List MV) (hsrc : Src φ v 7 ms.length (ms.flatMap mvL)) (n : Nat) (hn24 : n ≤ 24) (w : World) (hφ : HpOK φ w) (hnd : (φ.map Prod.fst).Nodup) : Ret Tryz.prog 6 [v, I n] w [] (fun u w' => BuiltTo (buildF (ms.take n)) w u w') := by
  refine enter (n := 41) (args := [v, I n]) [] φ Tryz.func6 rfl rfl rfl hφ hnd ?_
  refine wc_seq ?_
  refine wc_plain [(0, .x true), (1, .x true), (2, .x true)] (by kernel_rfl) ?_
  refine ws_l rfl rfl rfl rfl (rd_assign rfl) ?_
  refine ws_l rfl rfl rfl rfl (rd_assign rfl) ?_
  refine ws_l rfl rfl rfl rfl (rd_assign rfl) ?_
  refine ws_nil ?_
  refine qe_then ?_
  refine wc_seq ?_
  refine wc_plain [(0, .x true), (1, .x true)] (by kernel_rfl) ?_
  refine ws_call rfl rfl rfl rfl rfl (En.go) (fun w hp hn ho => new_ret w) (fun _ h => by cases h) (fun hh q h => by first | (cases h; done) | exact hh q h) ?_
  rintro v12 wa wb hpo hon hon2 hp1 ⟨p, m, k, rfl, hp0, hm0, hk0, hnd0, hph⟩
  refine ⟨_, hph, by simpa using hnd0, fun b hb => by simp at hb; rcases hb with rfl | rfl | rfl; exact .inl hp0; exact .inl hm0; exact .inl hk0, ?_⟩
  replace hp0 := Nat.le_trans hon.size hp0
  replace hm0 := Nat.le_trans hon.size hm0
  replace hk0 := Nat.le_trans hon.size hk0
  simp only [List.cons_append, List.nil_append]
  refine ws_l rfl rfl rfl rfl (rd_assign rfl) ?_
  refine ws_nil ?_
  refine qe_then ?_
  refine wc_seq ?_
  refine wc_plain [(0, .x true)] (by kernel_rfl) ?_
  refine ws_l rfl rfl rfl rfl (rd_assign rfl) ?_
  refine ws_nil ?_
  refine qe_then ?_
  refine wc_seq ?_
  refine wc_seq ?_
  refine wc_plain [(0, .x true)] (by kernel_rfl) ?_
  refine ws_l rfl rfl rfl rfl (rd_assign rfl) ?_
  refine ws_nil ?_
  refine qe_then ?_
  refine wc_block ?_
  refine wc_loop (fun mz ac w1 => ∃ (j : Nat) (es : Array MapEntry) (c : Nat) (ws : Array MapEntry) (d : Nat) (L : RMap) (W : WMap) (v8 : Value) (νl : Heap), mz = 25 - j ∧ (j ≤ ms.length ∧ j ≤ n) ∧ (MapIs (idK (n := 32)) rkK es c L) ∧ (MapIs plE pvE ws d W) ∧ (RingOK L W (buildF (ms.take j))) ∧ (OwnR w.heap.size 53 84 v8 νl (buildF (ms.take j)).length ((buildF (ms.take j)).flatMap rkL)) ∧ (∀ b ∈ (ringT m k es c ws d (facts W)).map Prod.fst, w.heap.size ≤ b) ∧ St 41 w [] [(0, v), (1, I n), (7, ptr p), (8, v8), (9, I j)] (ringP p m k :: (ringT m k es c ws d (facts W) ++ (νl ++ φ))) ac w1) _ (fun ac w1 hs => ⟨0, #[], 0, #[], 0, [], [], .slice none 0 0, [], rfl, (by omega), (MapIs.empty _ _ 0), (MapIs.empty _ _ 0), (RingOK.empty), (OwnR.nil _ _ _), (fun b hb => by simp [facts] at hb; rcases hb with rfl | rfl; exact hm0; exact hk0), st_sub hs _ rfl⟩) ?_
  rintro _ ac1 wl1 ⟨j, es, c, ws, d, L, W, v8, νl, rfl, hj, hL, hW, hok, hlo, hfar, hs1⟩
  refine wc_at hs1 ?_
  refine wc_seq ?_
  refine wc_seq ?_
  refine wc_plain [(0, .x true), (1, .x true), (2, .x true), (3, .x true), (4, .x true), (5, .x true), (6, .x true), (7, .x true), (8, .x true)] (by kernel_rfl) ?_
  refine ws_l rfl rfl rfl rfl (rd_move rfl) ?_
  refine ws_l rfl rfl rfl rfl (rd_move rfl) ?_
  refine ws_l rfl rfl rfl rfl (rd_lenS hsrc rfl Tryz.underlying22) ?_
  refine ws_lcmp rfl rfl rfl (rfl) (rfl) (rfl) ?_ ?_
  · intro h16
    refine ws_l rfl rfl rfl rfl (rd_move rfl) ?_
    refine ws_l rfl rfl rfl rfl (rd_move rfl) ?_
    refine ws_l rfl rfl rfl rfl (rd_move rfl) ?_
    refine ws_lcmp rfl rfl rfl (rfl) (rfl) (rfl) ?_ ?_
    · intro h20
      refine ws_l rfl rfl rfl rfl (rd_pick_t rfl rfl) ?_
      refine ws_nil ?_
      refine qe_then ?_
      refine wc_true rfl ?_
      refine wc_skip ?_
      refine qe_then ?_
      refine wc_seq ?_
      refine wc_block ?_
      refine wc_seq ?_
      refine wc_plain [(0, .x true), (1, .x true), (2, .x true), (3, .x true), (4, .x true), (5, .x true), (6, .x true), (7, .x true), (8, .x true), (9, .x true), (10, .x true), (11, .x true)] (by kernel_rfl) ?_
      refine ws_l rfl rfl rfl rfl (rd_move rfl) ?_
      refine ws_l rfl rfl rfl rfl (rd_move rfl) ?_
      refine ws_l rfl rfl rfl rfl (rd_move rfl) ?_
      refine ws_l rfl rfl rfl rfl (rd_move rfl) ?_
      have hjl : j < ms.length := by simp only [cmpP] at h16; omega
      obtain ⟨bg, og, cg, csg, Eg, frg, rfl, hmg, hcg⟩ := Src.opened hsrc (by omega)
      have hmig : HM bg (.cells csg Eg frg) φ := ⟨hmg⟩
      obtain ⟨x, hx⟩ := at_ex (l := ms) (j := j) (by omega)
      have atx : AtM csg (og + j * 7) x := at_mv hcg hx
      refine ws_l rfl rfl rfl rfl (rd_index (og + j * 7) rfl rfl Tryz.underlying22 Tryz.sizeOf51 ⟨by omega, by omega⟩ (by simp)) ?_
      refine ws_l rfl rfl rfl rfl (rd_load rfl) ?_
      have hl24 : (buildF (ms.take j)).length < 8192 := by have h1 := buildF_len (ms.take j); rw [List.length_take] at h1; omega
      have hbf : buildF (ms.take (j + 1)) = addM (buildF (ms.take j)) x := by rw [take_at hx, buildF_snoc]
      refine ws_callV (ringT m k es c ws d (facts W)) rfl rfl rfl rfl rfl (En.go) (fun w hp hn ho => add_law p m k es ws c d L W (buildF (ms.take j)) hL hW hok hl24 v8 νl hlo.src x w (hp.mono SubH.mem) (SubH.nd hn)) (fun b hb => .inl (hfar b hb)) (fun hh q h => by first | (cases h; done) | exact hh q h | (simp only [List.mem_append, List.mem_cons] at h ⊢; grind) | skip) ?_
      rintro v31 wa wb hpo hon hon2 hp1 ⟨u1, ν1, rfl, hν1, hnd1, hfar1, hdisj, es1, c1, ws1, d1, L1, W1, hp2, hnd2, hfar2, hL1, hW1, hok1⟩
      refine ⟨ringT m k es1 c1 ws1 d1 (facts W1) ++ ν1, hp2.append hν1, hnd2, fun b hb => by rw [List.map_append, List.mem_append] at hb; exact hb.elim (hfar2 b) (fun h => .inl (hfar1 b h)), ?_⟩
      have hfar3 : ∀ b ∈ (ringT m k es1 c1 ws1 d1 (facts W1)).map Prod.fst, w.heap.size ≤ b := fun b hb => (hfar2 b hb).elim (fun h => Nat.le_trans hon.size h) (hfar b)
      replace hdisj : (u1 = v8 ∧ addM (buildF (ms.take j)) x = (buildF (ms.take j))) ∨ OwnR w.heap.size 53 84 u1 ν1 (addM (buildF (ms.take j)) x).length ((addM (buildF (ms.take j)) x).flatMap rkL) := hdisj.imp (fun h => h) (fun h => h.mono hon.size)
      simp only [List.cons_append, List.append_assoc]
      refine ws_l rfl rfl rfl rfl (rd_move rfl) ?_
      refine ws_l rfl rfl rfl rfl (rd_extract rfl) ?_
      refine ws_l rfl rfl rfl rfl (rd_extract rfl) ?_
      refine ws_l rfl rfl rfl rfl (rd_assign rfl) ?_
      refine ws_l rfl rfl rfl rfl (rd_assign rfl) ?_
      refine ws_nil ?_
      refine qe_then ?_
      refine wc_seq ?_
      refine wc_plain [(0, .x true), (1, .x true)] (by kernel_rfl) ?_
      rcases hdisj with ⟨hu, hsame⟩ | hnew
      ·
        refine ws_l rfl rfl rfl rfl (rd_move rfl) ?_
        refine ws_l rfl rfl rfl rfl (rd_assign rfl) ?_
        refine ws_nil ?_
        refine qe_then ?_
        refine wc_seq ?_
        refine wc_plain [(0, .x true), (1, .x true)] (by kernel_rfl) ?_
        refine ws_l rfl rfl rfl rfl (rd_move rfl) ?_
        refine ws_l rfl rfl rfl rfl (rd_not rfl) ?_
        refine ws_nil ?_
        refine qe_then ?_
        refine wc_false rfl ?_
        refine wc_skip ?_
        refine qe_block ?_
        refine qe_then ?_
        refine wc_plain [(0, .x true), (1, .x true), (2, .x true)] (by kernel_rfl) ?_
        refine ws_l rfl rfl rfl rfl (rd_move rfl) ?_
        refine ws_l rfl rfl rfl rfl (rd_arith (((j + 1 : Nat) : Nat) : Int) rfl rfl rfl (by rw [wrap_i64 _ (by omega) (by omega)]; omega)) ?_
        refine ws_l rfl rfl rfl rfl (rd_assign rfl) ?_
        refine ws_nil ?_
        exact qe_loop fun ac2 w2 hs2 => ⟨_, by omega, j + 1, es1, c1, ws1, d1, L1, W1, u1, νl, rfl, (by simp only [cmpP] at h16 h20; omega), (hL1), (hW1), (by rw [hbf]; exact hok1), (by rw [hu, hbf, hsame]; exact hlo), (hfar3), st_sub hs2 _ rfl⟩
      ·
        refine ws_l rfl rfl rfl rfl (rd_move rfl) ?_
        refine ws_l rfl rfl rfl rfl (rd_assign rfl) ?_
        refine ws_nil ?_
        refine qe_then ?_
        refine wc_seq ?_
        refine wc_plain [(0, .x true), (1, .x true)] (by kernel_rfl) ?_
        refine ws_l rfl rfl rfl rfl (rd_move rfl) ?_
        refine ws_l rfl rfl rfl rfl (rd_not rfl) ?_
        refine ws_nil ?_
        refine qe_then ?_
        refine wc_false rfl ?_
        refine wc_skip ?_
        refine qe_block ?_
        refine qe_then ?_
        refine wc_plain [(0, .x true), (1, .x true), (2, .x true)] (by kernel_rfl) ?_
        refine ws_l rfl rfl rfl rfl (rd_move rfl) ?_
        refine ws_l rfl rfl rfl rfl (rd_arith (((j + 1 : Nat) : Nat) : Int) rfl rfl rfl (by rw [wrap_i64 _ (by omega) (by omega)]; omega)) ?_
        refine ws_l rfl rfl rfl rfl (rd_assign rfl) ?_
        refine ws_nil ?_
        exact qe_loop fun ac2 w2 hs2 => ⟨_, by omega, j + 1, es1, c1, ws1, d1, L1, W1, u1, ν1, rfl, (by simp only [cmpP] at h16 h20; omega), (hL1), (hW1), (by rw [hbf]; exact hok1), (by rw [hbf]; exact hnew), (hfar3), st_sub hs2 _ rfl⟩
    · intro h20
      refine ws_l rfl rfl rfl rfl (rd_pick_t rfl rfl) ?_
      refine ws_nil ?_
      refine qe_then ?_
      refine wc_false rfl ?_
      refine wc_exit ?_
      refine qe_then_exit ?_
      refine qe_then_exit ?_
      refine qe_block_exit ?_
      refine qe_then ?_
      refine wc_keep [(7, _), (8, _)] rfl ?_
      refine wc_seq ?_
      refine wc_plain [(0, .x true), (1, .x true), (2, .x true), (3, .x true), (4, .x true)] (by kernel_rfl) ?_
      refine ws_l rfl rfl rfl rfl (rd_move rfl) ?_
      refine ws_l rfl rfl rfl rfl (rd_move rfl) ?_
      refine ws_l rfl rfl rfl rfl (rd_assign rfl) ?_
      refine ws_l rfl rfl rfl rfl (rd_assign rfl) ?_
      refine ws_l rfl rfl rfl rfl (rd_assign rfl) ?_
      refine ws_nil ?_
      refine qe_then ?_
      refine wc_ret ?_
      refine qe_body _ (.inl rfl) (res3 rfl (RV.tmp rfl) (RV.tmp rfl) (RV.tmp rfl)) ?_
      have htk : ms.take j = ms.take n := take_min (by omega) (.inr (by simpa [cmpP] using h20))
      rw [htk] at hok hlo
      exact ret_end fun w2 hp hn ho => ⟨p, m, k, es, c, ws, d, L, W, v8, νl, rfl, hp.mono SubH.mem, SubH.nd hn, fun b hb => by simp only [List.map_cons, List.mem_cons, List.map_append, List.mem_append] at hb hfar; rcases hb with rfl | (rfl | rfl | hb) | hb; exact hp0; exact hm0; exact hk0; exact hfar b (.inr (.inr hb)); exact hlo.far b hb, hL, hW, hok, hlo⟩
  · intro h16
    refine ws_l rfl rfl rfl rfl (rd_move rfl) ?_
    refine ws_xskip rfl rfl rfl rfl ?_
    refine ws_xskip rfl rfl rfl rfl ?_
    refine ws_xskip rfl rfl rfl rfl ?_
    refine ws_l rfl rfl rfl rfl (rd_pick_f rfl rfl) ?_
    refine ws_nil ?_
    refine qe_then ?_
    refine wc_false rfl ?_
    refine wc_exit ?_
    refine qe_then_exit ?_
    refine qe_then_exit ?_
    refine qe_block_exit ?_
    refine qe_then ?_
    refine wc_keep [(7, _), (8, _)] rfl ?_
    refine wc_seq ?_
    refine wc_plain [(0, .x true), (1, .x true), (2, .x true), (3, .x true), (4, .x true)] (by kernel_rfl) ?_
    refine ws_l rfl rfl rfl rfl (rd_move rfl) ?_
    refine ws_l rfl rfl rfl rfl (rd_move rfl) ?_
    refine ws_l rfl rfl rfl rfl (rd_assign rfl) ?_
    refine ws_l rfl rfl rfl rfl (rd_assign rfl) ?_
    refine ws_l rfl rfl rfl rfl (rd_assign rfl) ?_
    refine ws_nil ?_
    refine qe_then ?_
    refine wc_ret ?_
    refine qe_body _ (.inl rfl) (res3 rfl (RV.tmp rfl) (RV.tmp rfl) (RV.tmp rfl)) ?_
    have htk : ms.take j = ms.take n := take_min (by omega) (.inl (by simpa [cmpP] using h16))
    rw [htk] at hok hlo
    exact ret_end fun w2 hp hn ho => ⟨p, m, k, es, c, ws, d, L, W, v8, νl, rfl, hp.mono SubH.mem, SubH.nd hn, fun b hb => by simp only [List.map_cons, List.mem_cons, List.map_append, List.mem_append] at hb hfar; rcases hb with rfl | (rfl | rfl | hb) | hb; exact hp0; exact hm0; exact hk0; exact hfar b (.inr (.inr hb)); exact hlo.far b hb, hL, hW, hok, hlo⟩
set_option maxRecDepth 100000 in
set_option maxHeartbeats 1000000 in
theorem chain_law (v1 v2 : Value) (φ : Heap) (xs ys : List KK) (h1 : Src φ v1 51 xs.length (xs.flatMap kkL)) (h2 : Src φ v2 51 ys.length (ys.flatMap kkL)) (hlen : xs.length < 1048576) (w : World) (hφ : HpOK φ w) (hnd : (φ.map Prod.fst).Nodup) : Ret Tryz.prog 13 [v1, v2] w [] (fun u _ => u = .bool (decide (xs = ys))) := by
  refine enter (n := 44) (args := [v1, v2]) [] φ Tryz.func13 rfl rfl rfl hφ hnd ?_
  refine wc_seq ?_
  refine wc_plain [(0, .x true)] (by kernel_rfl) ?_
  refine ws_l rfl rfl rfl rfl (rd_assign rfl) ?_
  refine ws_nil ?_
  refine qe_then ?_
  refine wc_seq ?_
  refine wc_seq ?_
  refine wc_plain [(0, .x true), (1, .x true), (2, .x true), (3, .x true), (4, .x true)] (by kernel_rfl) ?_
  refine ws_l rfl rfl rfl rfl (rd_move rfl) ?_
  refine ws_l rfl rfl rfl rfl (rd_lenS h1 rfl Tryz.underlying47) ?_
  refine ws_l rfl rfl rfl rfl (rd_move rfl) ?_
  refine ws_l rfl rfl rfl rfl (rd_lenS h2 rfl Tryz.underlying33) ?_
  refine ws_lcmp rfl rfl rfl (rfl) (rfl) (rfl) ?_ ?_
  · intro h10
    refine ws_nil ?_
    refine qe_then ?_
    refine wc_true rfl ?_
    refine wc_seq ?_
    refine wc_plain [(0, .x true)] (by kernel_rfl) ?_
    refine ws_l rfl rfl rfl rfl (rd_assign rfl) ?_
    refine ws_nil ?_
    refine qe_then ?_
    refine wc_keep [(0, _), (1, _), (4, _)] rfl ?_
    refine wc_ret ?_
    refine qe_then_ret ?_
    refine qe_body _ (.inl rfl) (res1 rfl (RV.tmp rfl)) ?_
    exact ret_end fun w hp hn ho => bf (fun e => h10 (by rw [e]))
  · intro h10
    have hll : xs.length = ys.length := by simp only [cmpP] at h10; omega
    refine ws_nil ?_
    refine qe_then ?_
    refine wc_false rfl ?_
    refine wc_skip ?_
    refine qe_then ?_
    refine wc_keep [(0, _), (1, _), (4, _)] rfl ?_
    refine wc_seq ?_
    refine wc_seq ?_
    refine wc_plain [(0, .x true)] (by kernel_rfl) ?_
    refine ws_l rfl rfl rfl rfl (rd_assign rfl) ?_
    refine ws_nil ?_
    refine qe_then ?_
    refine wc_block ?_
    refine wc_loop (fun mz ac w1 => ∃ (j : Nat), mz = xs.length - j ∧ (j ≤ xs.length) ∧ (xs.take j = ys.take j) ∧ St 44 w [] [(0, v1), (1, v2), (5, I j)] φ ac w1) _ (fun ac w1 hs => ⟨0, rfl, (by omega), (by simp), st_sub hs _ rfl⟩) ?_
    rintro _ ac1 wl1 ⟨j, rfl, hj, hf, hs1⟩
    refine wc_at hs1 ?_
    refine wc_seq ?_
    refine wc_seq ?_
    refine wc_plain [(0, .x true), (1, .x true), (2, .x true), (3, .x true)] (by kernel_rfl) ?_
    refine ws_l rfl rfl rfl rfl (rd_move rfl) ?_
    refine ws_l rfl rfl rfl rfl (rd_move rfl) ?_
    refine ws_l rfl rfl rfl rfl (rd_lenS h1 rfl Tryz.underlying47) ?_
    refine ws_lcmp rfl rfl rfl (rfl) (rfl) (rfl) ?_ ?_
    · intro h14
      refine ws_nil ?_
      refine qe_then ?_
      refine wc_true rfl ?_
      refine wc_skip ?_
      refine qe_then ?_
      refine wc_seq ?_
      refine wc_block ?_
      refine wc_seq ?_
      refine wc_drawn mixedT _ (fun _ h => h) [(0, .r), (1, .r), (2, .r), (3, .r), (4, .r), (5, .r), (6, .r), (7, .r), (8, .r), (9, .r), (10, .r), (11, .r), (12, .r), (13, .r), (15, .r), (16, .r), (17, .r), (18, .r), (19, .r), (20, .r), (21, .r), (22, .r), (23, .r), (24, .r), (14, .x false), (25, .r), (26, .x true)] (by kernel_rfl) ?_
      refine ws_r rfl rfl rfl rfl (rd_move rfl) ?_
      refine ws_r rfl rfl rfl rfl (rd_move rfl) ?_
      have hjl : j < xs.length := by simp only [cmpP] at h14; omega
      obtain ⟨ba, oa, ca, csa, Ea, fra, rfl, hma, hca⟩ := Src.opened h1 (by omega)
      have hmia : HM ba (.cells csa Ea fra) φ := ⟨hma⟩
      obtain ⟨x, hx⟩ := at_ex (l := xs) (j := j) (by omega)
      have atx : AtK csa (oa + j * 51) x := at_kk hca hx
      refine ws_r rfl rfl rfl rfl (rd_index (oa + j * 51) rfl rfl Tryz.underlying47 Tryz.sizeOf39 ⟨by omega, by omega⟩ (by simp)) ?_
      refine ws_r rfl rfl rfl rfl (rd_load rfl) ?_
      refine ws_r rfl rfl rfl rfl (rd_move rfl) ?_
      refine ws_r rfl rfl rfl rfl (rd_move rfl) ?_
      obtain ⟨bb, ob, cb, csb, Eb, frb, rfl, hmb, hcb⟩ := Src.opened h2 (by omega)
      have hmib : HM bb (.cells csb Eb frb) φ := ⟨hmb⟩
      obtain ⟨y, hy⟩ := at_ex (l := ys) (j := j) (by omega)
      have aty : AtK csb (ob + j * 51) y := at_kk hcb hy
      refine ws_r rfl rfl rfl rfl (rd_index (ob + j * 51) rfl rfl Tryz.underlying33 Tryz.sizeOf79 ⟨by omega, by omega⟩ (by simp)) ?_
      refine ws_r rfl rfl rfl rfl (rd_fieldAddr rfl) ?_
      refine ws_r rfl rfl rfl rfl (rd_load rfl) ?_
      refine ws_r rfl rfl rfl rfl (rd_move rfl) ?_
      refine ws_r rfl rfl rfl rfl (rd_move rfl) ?_
      refine ws_r rfl rfl rfl rfl (rd_index (ob + j * 51) rfl rfl Tryz.underlying33 Tryz.sizeOf79 ⟨by omega, by omega⟩ (by simp)) ?_
      refine ws_r rfl rfl rfl rfl (rd_fieldAddr rfl) ?_
      refine ws_r rfl rfl rfl rfl (rd_load rfl) ?_
      refine ws_r rfl rfl rfl rfl (rd_move rfl) ?_
      refine ws_r rfl rfl rfl rfl (rd_move rfl) ?_
      refine ws_r rfl rfl rfl rfl (rd_index (ob + j * 51) rfl rfl Tryz.underlying33 Tryz.sizeOf79 ⟨by omega, by omega⟩ (by simp)) ?_
      refine ws_r rfl rfl rfl rfl (rd_fieldAddr rfl) ?_
      refine ws_r rfl rfl rfl rfl (rd_load rfl) ?_
      refine ws_r rfl rfl rfl rfl (rd_move rfl) ?_
      refine ws_r rfl rfl rfl rfl (rd_move rfl) ?_
      refine ws_r rfl rfl rfl rfl (rd_index (ob + j * 51) rfl rfl Tryz.underlying33 Tryz.sizeOf79 ⟨by omega, by omega⟩ (by simp)) ?_
      refine ws_r rfl rfl rfl rfl (rd_fieldAddr rfl) ?_
      refine ws_r rfl rfl rfl rfl (rd_load rfl) ?_
      refine ws_callp rfl rfl rfl rfl rfl (En.go) (fun w hp hn ho => to_ret _ w) ?_
      refine ws_r rfl rfl rfl rfl (rd_build rfl) ?_
      refine ws_late rfl ?_
      refine ws_lp _ rfl rfl rfl rfl (rd_neq39 rfl rfl) ?_ ?_
      · intro h43
        refine ws_nil ?_
        refine qe_then ?_
        refine wc_true rfl ?_
        refine wc_seq ?_
        refine wc_plain [(0, .x true)] (by kernel_rfl) ?_
        refine ws_l rfl rfl rfl rfl (rd_assign rfl) ?_
        refine ws_nil ?_
        refine qe_then ?_
        refine wc_ret ?_
        refine qe_block_ret ?_
        refine qe_then_ret ?_
        refine qe_then_ret ?_
        refine qe_block_ret ?_
        refine qe_then_ret ?_
        refine qe_body _ (.inl rfl) (res1 rfl (RV.tmp rfl)) ?_
        exact ret_end fun w hp hn ho => bf (fun e => by subst e; rw [hx] at hy; cases hy; exact h43 rfl)
      · intro h43
        refine ws_nil ?_
        refine qe_then ?_
        refine wc_false rfl ?_
        refine wc_skip ?_
        refine qe_block ?_
        refine qe_then ?_
        refine wc_plain [(0, .x true), (1, .x true), (2, .x true)] (by kernel_rfl) ?_
        refine ws_l rfl rfl rfl rfl (rd_move rfl) ?_
        refine ws_l rfl rfl rfl rfl (rd_arith (((j + 1 : Nat) : Nat) : Int) rfl rfl rfl (by rw [wrap_i64 _ (by omega) (by omega)]; omega)) ?_
        refine ws_l rfl rfl rfl rfl (rd_assign rfl) ?_
        refine ws_nil ?_
        exact qe_loop fun ac2 w2 hs2 => ⟨_, by (simp only [cmpP] at h14; omega), j + 1, rfl, (by simp only [cmpP] at h14; omega), (by rw [take_at hx, take_at hy, hf, Decidable.of_not_not h43]), st_sub hs2 _ rfl⟩
    · intro h14
      refine ws_nil ?_
      refine qe_then ?_
      refine wc_false rfl ?_
      refine wc_exit ?_
      refine qe_then_exit ?_
      refine qe_then_exit ?_
      refine qe_block_exit ?_
      refine qe_then ?_
      refine wc_keep [] rfl ?_
      refine wc_seq ?_
      refine wc_plain [(0, .x true)] (by kernel_rfl) ?_
      refine ws_l rfl rfl rfl rfl (rd_assign rfl) ?_
      refine ws_nil ?_
      refine qe_then ?_
      refine wc_ret ?_
      refine qe_body _ (.inl rfl) (res1 rfl (RV.tmp rfl)) ?_
      exact ret_end fun w hp hn ho => by simp only [cmpP] at h14; rw [List.take_of_length_le (by omega), List.take_of_length_le (by omega)] at hf; exact bt hf

end Go.Proofs.YtheioljidangkaaGreat
