/- Walk: KeyringHonest. No conditions. -/
import Derived.Test.YtheioljidangkaaHon
import Derived.Test.YtheioljidangkaaW20
import Derived.Test.YtheioljidangkaaOpn
namespace Go.Proofs.Ytheioljidangkaa
open Go Go.RowKit Go.Sx
set_option linter.unusedSimpArgs false
set_option linter.unusedVariables false

instance (priority := low) PickA.both (ν μ η η1 η2 : Heap) [h1 : PickA ν η η1] [h2 : PickA μ η1 η2] : PickA (ν ++ μ) η η2 := ⟨h1.go.trans ((h2.go.append_left ν).trans (by rw [List.append_assoc]))⟩
set_option maxRecDepth 100000 in
theorem zeroMv (w : World) : (zeroValue 41).run Try.prog w = .ok (.agg (mvC mv0)) w := by rw [Try.zeroValue41]; simp only [mvC, mv0]; rfl
theorem add8 (x y : UInt8) : IntKind.u8.wrap (((x.toNat : Nat) : Int) + ((y.toNat : Nat) : Int)) = (((x + y).toNat : Nat) : Int) := by
  rw [UInt8.toNat_add]
  simp [IntKind.wrap, IntKind.bits, IntKind.signed]
theorem fill_m0 (x : UInt8) : fillS (mvC mv0) [(0, #[u8v (1 : UInt8)]), (2, #[u8v (1 : UInt8)]), (3, #[u8v (2 : UInt8)]), (4, #[u8v x]), (5, #[u8v (13 : UInt8)]), (6, #[u8v (255 : UInt8)])] = mvC (m0 x) := by
  rw [fillS, mv_s0 _ (1 : UInt8)]; rw [fillS, mv_s2 _ (1 : UInt8)]; rw [fillS, mv_s3 _ (2 : UInt8)]; rw [fillS, mv_s4 _ x]; rw [fillS, mv_s5 _ (13 : UInt8)]; rw [fillS, mv_s6 _ (255 : UInt8)]; rw [fillS]; rfl
instance (x : UInt8) : Builds Try.prog 41 [(0, .int .u8 1), (2, .int .u8 1), (3, .int .u8 2), (4, u8v x), (5, .int .u8 13), (6, .int .u8 255)] (mvC (m0 x)) := Builds.struct inferInstance Try.underlying41 (by kernel_rfl) (#[(0, 1), (1, 1), (2, 1), (3, 1), (4, 1), (5, 1), (6, 1)] : Array (Nat × Nat)) (by kernel_rfl) [(0, #[u8v (1 : UInt8)]), (2, #[u8v (1 : UInt8)]), (3, #[u8v (2 : UInt8)]), (4, #[u8v x]), (5, #[u8v (13 : UInt8)]), (6, #[u8v (255 : UInt8)])] (by simp [placed, Value.cells] <;> rfl) (by simp [mvC_size]) (fill_m0 x)
theorem fill_m1 (x : UInt8) : fillS (mvC mv0) [(0, #[u8v (1 : UInt8)]), (1, #[u8v (1 : UInt8)]), (2, #[u8v (2 : UInt8)]), (3, #[u8v (3 : UInt8)]), (4, #[u8v x]), (5, #[u8v (14 : UInt8)]), (6, #[u8v (255 : UInt8)])] = mvC (m1 x) := by
  rw [fillS, mv_s0 _ (1 : UInt8)]; rw [fillS, mv_s1 _ (1 : UInt8)]; rw [fillS, mv_s2 _ (2 : UInt8)]; rw [fillS, mv_s3 _ (3 : UInt8)]; rw [fillS, mv_s4 _ x]; rw [fillS, mv_s5 _ (14 : UInt8)]; rw [fillS, mv_s6 _ (255 : UInt8)]; rw [fillS]; rfl
instance (x : UInt8) : Builds Try.prog 41 [(0, .int .u8 1), (1, .int .u8 1), (2, .int .u8 2), (3, .int .u8 3), (4, u8v x), (5, .int .u8 14), (6, .int .u8 255)] (mvC (m1 x)) := Builds.struct inferInstance Try.underlying41 (by kernel_rfl) (#[(0, 1), (1, 1), (2, 1), (3, 1), (4, 1), (5, 1), (6, 1)] : Array (Nat × Nat)) (by kernel_rfl) [(0, #[u8v (1 : UInt8)]), (1, #[u8v (1 : UInt8)]), (2, #[u8v (2 : UInt8)]), (3, #[u8v (3 : UInt8)]), (4, #[u8v x]), (5, #[u8v (14 : UInt8)]), (6, #[u8v (255 : UInt8)])] (by simp [placed, Value.cells] <;> rfl) (by simp [mvC_size]) (fill_m1 x)
theorem fill_m2 (x : UInt8) : fillS (mvC mv0) [(0, #[u8v (1 : UInt8)]), (1, #[u8v (2 : UInt8)]), (2, #[u8v (3 : UInt8)]), (3, #[u8v (4 : UInt8)]), (4, #[u8v x]), (5, #[u8v (15 : UInt8)]), (6, #[u8v (255 : UInt8)])] = mvC (m2 x) := by
  rw [fillS, mv_s0 _ (1 : UInt8)]; rw [fillS, mv_s1 _ (2 : UInt8)]; rw [fillS, mv_s2 _ (3 : UInt8)]; rw [fillS, mv_s3 _ (4 : UInt8)]; rw [fillS, mv_s4 _ x]; rw [fillS, mv_s5 _ (15 : UInt8)]; rw [fillS, mv_s6 _ (255 : UInt8)]; rw [fillS]; rfl
instance (x : UInt8) : Builds Try.prog 41 [(0, .int .u8 1), (1, .int .u8 2), (2, .int .u8 3), (3, .int .u8 4), (4, u8v x), (5, .int .u8 15), (6, .int .u8 255)] (mvC (m2 x)) := Builds.struct inferInstance Try.underlying41 (by kernel_rfl) (#[(0, 1), (1, 1), (2, 1), (3, 1), (4, 1), (5, 1), (6, 1)] : Array (Nat × Nat)) (by kernel_rfl) [(0, #[u8v (1 : UInt8)]), (1, #[u8v (2 : UInt8)]), (2, #[u8v (3 : UInt8)]), (3, #[u8v (4 : UInt8)]), (4, #[u8v x]), (5, #[u8v (15 : UInt8)]), (6, #[u8v (255 : UInt8)])] (by simp [placed, Value.cells] <;> rfl) (by simp [mvC_size]) (fill_m2 x)
instance (a b c : MV) : BuildsS Try.prog 22 3 [(0, mvK a), (1, mvK b), (2, mvK c)] 41 ([a, b, c].flatMap mvL).toArray :=
  BuildsS.rows [mvC a, mvC b, mvC c] 3 rfl (by omega) (by omega) Try.underlying22 Try.sizeOf41 (by omega) (by omega) zeroMv (List.forall_mem_cons.2 ⟨mvC_size a, List.forall_mem_cons.2 ⟨mvC_size b, List.forall_mem_cons.2 ⟨mvC_size c, fun _ h => absurd h List.not_mem_nil⟩⟩⟩) (by simp only [List.toList_toArray, List.flatMap_cons, List.flatMap_nil])
set_option maxRecDepth 100000 in
set_option maxHeartbeats 1000000 in
theorem honest_ret (lv : Vector UInt8 3) (v : Value) (φ : Heap) (ms : List MV) (hsrc : Src φ v 7 ms.length (ms.flatMap mvL)) (pc : Vector UInt8 4) (w : World) (hφ : HpOK φ w) (hnd : (φ.map Prod.fst).Nodup) : Ret Try.prog 5 [idK lv, v, idK pc] w [] (fun u _ => u = .bool true) := by
  refine enter (n := 158) (args := [idK lv, v, idK pc]) [] φ Try.func5 rfl rfl rfl hφ hnd ?_
  refine wc_seq ?_
  refine wc_plain [(0, .x true), (1, .x true), (2, .x true)] (by kernel_rfl) ?_
  refine ws_box rfl rfl rfl rfl ?_
  intro b3 hb3
  refine ws_box rfl rfl rfl rfl ?_
  intro b5 hb5
  refine ws_l rfl rfl rfl rfl (rd_assign rfl) ?_
  refine ws_nil ?_
  refine qe_then ?_
  refine wc_seq ?_
  refine wc_seq ?_
  refine wc_plain [(0, .x true), (1, .x true)] (by kernel_rfl) ?_
  refine ws_callp rfl rfl rfl rfl rfl (En.go) (fun w hp hn ho => known_ret w) ?_
  refine ws_l rfl rfl rfl rfl (rd_not rfl) ?_
  refine ws_nil ?_
  refine qe_then ?_
  refine wc_false rfl ?_
  refine wc_skip ?_
  refine qe_then ?_
  refine wc_seq ?_
  refine wc_plain [(0, .x true), (1, .x true), (2, .x true), (3, .x true)] (by kernel_rfl) ?_
  refine ws_callp rfl rfl rfl rfl rfl (En.go) (fun w hp hn ho => public_ret 1 w) ?_
  refine ws_callp rfl rfl rfl rfl rfl (En.go) (fun w hp hn ho => of_ref _ w) ?_
  refine ws_alloc rfl rfl rfl ?_
  intro b7 hb7
  refine ws_store rfl rfl rfl rfl (by first | exact .inl (by assumption) | exact .inr (by simp)) (fun _ h _ => by first | (cases h; done) | exact List.mem_cons_of_mem _ h | exact List.mem_cons_of_mem _ (List.mem_cons_of_mem _ h) | (simp at h ⊢; simp [h])) ?_
  refine ws_nil ?_
  refine qe_then ?_
  refine wc_keep [(1, _), (3, _), (5, _), (6, _), (7, _)] rfl ?_
  refine wc_seq ?_
  refine wc_plain [(0, .x true), (1, .x true), (2, .x true), (3, .x true), (4, .x true), (5, .x true), (6, .x true), (7, .x true), (8, .x true), (9, .x true), (10, .x true)] (by kernel_rfl) ?_
  have galv0 := idA lv 0 (by omega)
  have galv1 := idA lv 1 (by omega)
  have galv2 := idA lv 2 (by omega)
  refine ws_l rfl rfl rfl rfl (rd_ixArr 0 rfl rfl Try.underlying56 Try.sizeOf5 ⟨by omega, by omega⟩ rfl) ?_
  refine ws_l rfl rfl rfl rfl (rd_load rfl) ?_
  refine ws_l rfl rfl rfl rfl (rd_build rfl) ?_
  refine ws_l rfl rfl rfl rfl (rd_ixArr 1 rfl rfl Try.underlying56 Try.sizeOf5 ⟨by omega, by omega⟩ rfl) ?_
  refine ws_l rfl rfl rfl rfl (rd_load rfl) ?_
  refine ws_l rfl rfl rfl rfl (rd_build rfl) ?_
  refine ws_l rfl rfl rfl rfl (rd_ixArr 2 rfl rfl Try.underlying56 Try.sizeOf5 ⟨by omega, by omega⟩ rfl) ?_
  refine ws_l rfl rfl rfl rfl (rd_load rfl) ?_
  refine ws_l rfl rfl rfl rfl (rd_build rfl) ?_
  refine ws_buildSlice rfl rfl rfl rfl ?_
  intro b37 hb37
  refine ws_l rfl rfl rfl rfl (rd_assign rfl) ?_
  refine ws_nil ?_
  refine qe_then ?_
  refine wc_keep [(1, _), (5, _), (6, _), (7, _), (8, _)] rfl ?_
  refine wc_seq ?_
  refine wc_plain [(0, .x true), (1, .x true)] (by kernel_rfl) ?_
  refine ws_call rfl rfl rfl rfl rfl (En.go) (fun w hp hn ho => new_ret w) (fun _ h => by cases h) (fun hh q h => by first | (cases h; done) | exact hh q h) ?_
  rintro v38 wa wb hpo hon hon2 hp1 ⟨p, m, k, rfl, hp0, hm0, hk0, hnd0, hph⟩
  refine ⟨_, hph, by simpa using hnd0, fun b hb => by simp at hb; rcases hb with rfl | rfl | rfl; exact .inl hp0; exact .inl hm0; exact .inl hk0, ?_⟩
  replace hp0 := Nat.le_trans hon.size hp0
  replace hm0 := Nat.le_trans hon.size hm0
  replace hk0 := Nat.le_trans hon.size hk0
  simp only [List.cons_append, List.nil_append]
  refine ws_l rfl rfl rfl rfl (rd_assign rfl) ?_
  refine ws_nil ?_
  refine qe_then ?_
  refine wc_seq ?_
  refine wc_plain [(0, .x true)] (by kernel_rfl) ?_
  refine ws_l rfl rfl rfl rfl (rd_assign rfl) ?_
  refine ws_nil ?_
  refine qe_then ?_
  refine wc_seq ?_
  refine wc_drawnO mixedT _ (fun _ h => h) (.r 0 (.r 1 (.r 2 (.r 3 (.r 4 (.r 5 (.r 6 (.r 7 (.r 9 (.r 10 (.r 11 (.r 12 (.r 13 (.r 14 (.r 15 (.r 16 (.r 17 (.b3 8 18 19 (.b 18 19 (.seq [(19, .x false), (20, .r), (21, .x false), (22, .r), (23, .x true)]) (.seq [(18, .x false), (20, .r), (21, .x false), (22, .r), (23, .x true)])) (.b 8 19 (.seq [(19, .x false), (20, .r), (21, .x false), (22, .r), (23, .x true)]) (.seq [(8, .x false), (20, .r), (21, .x false), (22, .r), (23, .x true)])) (.b 8 18 (.seq [(18, .x false), (20, .r), (21, .x false), (22, .r), (23, .x true)]) (.seq [(8, .x false), (20, .r), (21, .x false), (22, .r), (23, .x true)])))))))))))))))))))) (by kernel_rfl) ?_
  refine od_join (A := Nat × Nat) (fun x => w.heap.size ≤ x.1 ∧ w.heap.size ≤ x.2) (fun x => [(1, v), (5, ptr b5), (7, ptr b7), (8, .slice (some ⟨b37, 0, none⟩) 3 3), (9, ptr p), (10, .slice none 0 0), (11, I ((pc[0].toNat % 4 : Nat) : Int)), (12, ptr x.1), (13, I ((pc[2].toNat % 8 : Nat) : Int)), (14, ptr x.2)]) (fun x => ((x.1, .cells (pubC (pubV ((1 : UInt8) + pc[1] % 4))) 32 (0, 0)) :: (x.2, .cells (idC (id0.set 31 ((10 : UInt8) + pc[3] % 6))) 34 (0, 0)) :: (b37, .cells ([m0 lv[0], m1 lv[1], m2 lv[2]].flatMap mvL).toArray 41 (0, 0)) :: (b7, .cells (idC hA) 29 (0, 0)) :: (b5, .cells (idC pc) 57 (0, 0)) :: (ringP p m k :: (ringT m k #[] 0 #[] 0 (facts []) ++ φ)))) ?_ ?_
  · rintro ⟨b12, b14⟩ ⟨hb12, hb14⟩
    refine qe_then ?_
    refine wc_seq ?_
    refine wc_drawn mixedT _ (fun _ h => h) [(0, .r), (1, .r), (2, .r), (3, .r), (5, .r), (6, .r), (4, .x false), (7, .x true), (8, .x true)] (by kernel_rfl) ?_
    refine ws_r rfl rfl rfl rfl (rd_move rfl) ?_
    refine ws_r rfl rfl rfl rfl (rd_load rfl) ?_
    refine ws_r rfl rfl rfl rfl (rd_move rfl) ?_
    refine ws_r rfl rfl rfl rfl (rd_load rfl) ?_
    refine ws_r rfl rfl rfl rfl (rd_move rfl) ?_
    refine ws_r rfl rfl rfl rfl (rd_load rfl) ?_
    refine ws_callp rfl rfl rfl rfl rfl (En.go) (fun w hp hn ho => to_ret _ w) ?_
    refine ws_late rfl ?_
    refine ws_callp rfl rfl rfl rfl rfl (En.go) (fun w hp hn ho => judge_ret p m k #[] #[] 0 0 [] [] [] (MapIs.empty _ _ 0) (MapIs.empty _ _ 0) RingOK.empty (by simp) hA _ _ _ _ w (hp.mono SubH.mem) (SubH.nd hn)) ?_
    refine ws_l rfl rfl rfl rfl (rd_assign rfl) ?_
    refine ws_nil ?_
    refine qe_then ?_
    refine wc_keep [(1, _), (5, _), (7, _), (8, _), (9, _), (10, _), (11, _), (12, _), (13, _), (14, _), (15, _)] rfl ?_
    refine wc_seq ?_
    refine wc_seq ?_
    refine wc_plain [(0, .x true)] (by kernel_rfl) ?_
    refine ws_l rfl rfl rfl rfl (rd_assign rfl) ?_
    refine ws_nil ?_
    refine qe_then ?_
    refine wc_block ?_
    refine wc_loop (fun mz ac w1 => ∃ (i : Nat) (es : Array MapEntry) (c : Nat) (ws : Array MapEntry) (d : Nat) (L : RMap) (W : WMap) (own : List RK) (v10 : Value) (νl : Heap), mz = 13 - i ∧ (i ≤ 13) ∧ (MapIs (idK (n := 32)) rkK es c L) ∧ (MapIs plE pvE ws d W) ∧ (RingOK L W own) ∧ (Src νl v10 84 own.length (own.flatMap rkL)) ∧ (∀ b ∈ (ringT m k es c ws d (facts W)).map Prod.fst, w.heap.size ≤ b) ∧ (Only3 (threeM lv[0] lv[1] lv[2]) own) ∧ (own.length ≤ i) ∧ St 158 w [] [(1, v), (5, ptr b5), (7, ptr b7), (8, .slice (some ⟨b37, 0, none⟩) 3 3), (9, ptr p), (10, v10), (11, I ((pc[0].toNat % 4 : Nat) : Int)), (12, ptr b12), (13, I ((pc[2].toNat % 8 : Nat) : Int)), (14, ptr b14), (15, I (judgeF own hA ((pc[0].toNat % 4 : Nat) : Int) (pubV ((1 : UInt8) + pc[1] % 4)) ((pc[2].toNat % 8 : Nat) : Int) (id0.set 31 ((10 : UInt8) + pc[3] % 6)))), (16, I i)] ((b12, .cells (pubC (pubV ((1 : UInt8) + pc[1] % 4))) 32 (0, 0)) :: (b14, .cells (idC (id0.set 31 ((10 : UInt8) + pc[3] % 6))) 34 (0, 0)) :: (b37, .cells ([m0 lv[0], m1 lv[1], m2 lv[2]].flatMap mvL).toArray 41 (0, 0)) :: (b7, .cells (idC hA) 29 (0, 0)) :: (b5, .cells (idC pc) 57 (0, 0)) :: (ringP p m k :: (ringT m k es c ws d (facts W) ++ (νl ++ φ)))) ac w1) _ (fun ac w1 hs => ⟨0, #[], 0, #[], 0, [], [], [], .slice none 0 0, [], rfl, (by omega), (MapIs.empty _ _ 0), (MapIs.empty _ _ 0), (RingOK.empty), (⟨by simp, .inl ⟨rfl, rfl⟩⟩), (fun b hb => by simp [facts] at hb; rcases hb with rfl | rfl; exact hm0; exact hk0), (fun r hr => by simp at hr), (by simp), st_sub hs _ rfl⟩) ?_
    rintro _ ac1 wl1 ⟨i, es, c, ws, d, L, W, own, v10, νl, rfl, hi, hL, hW, hok, hls, hfar, ho3, hln, hs1⟩
    refine wc_at hs1 ?_
    refine wc_seq ?_
    refine wc_seq ?_
    refine wc_plain [(0, .x true), (1, .x true)] (by kernel_rfl) ?_
    refine ws_l rfl rfl rfl rfl (rd_move rfl) ?_
    refine ws_lcmp rfl rfl rfl (rfl) (rfl) (rfl) ?_ ?_
    · intro h66
      refine ws_nil ?_
      refine qe_then ?_
      refine wc_true rfl ?_
      refine wc_skip ?_
      refine qe_then ?_
      refine wc_seq ?_
      refine wc_block ?_
      refine wc_seq ?_
      refine wc_plain [(0, .x true)] (by kernel_rfl) ?_
      refine ws_alloc rfl rfl rfl ?_
      intro b17 hb17
      refine ws_nil ?_
      refine qe_then ?_
      refine wc_seq ?_
      refine wc_block ?_
      refine wc_seq ?_
      refine wc_plain [(0, .x true), (1, .x true), (2, .x true), (3, .x true), (4, .x true), (5, .x true), (6, .x true), (7, .x true), (8, .x true)] (by kernel_rfl) ?_
      refine ws_l rfl rfl rfl rfl (rd_move rfl) ?_
      refine ws_l rfl rfl rfl rfl (rd_rem ((i % 4 : Nat) : Int) rfl rfl (by omega) (tmodN _ 4)) ?_
      refine ws_lcmp rfl rfl rfl (rfl) (rfl) (rfl) ?_ ?_
      · intro h72
        refine ws_l rfl rfl rfl rfl (rd_move rfl) ?_
        refine ws_l rfl rfl rfl rfl (rd_move rfl) ?_
        refine ws_l rfl rfl rfl rfl (rd_quo ((i / 4 : Nat) : Int) rfl rfl (by omega) (by rw [tdiv4, wrap_i64 _ (by omega) (by omega)])) ?_
        refine ws_lcmp rfl rfl rfl (rfl) (rfl) (rfl) ?_ ?_
        · intro h76
          refine ws_l rfl rfl rfl rfl (rd_pick_t rfl rfl) ?_
          refine ws_l rfl rfl rfl rfl (rd_assign rfl) ?_
          refine ws_nil ?_
          refine qe_then ?_
          refine wc_true rfl ?_
          refine wc_plain [(0, .x true), (1, .x true), (2, .x true), (3, .x true), (4, .x true), (5, .x true), (6, .x true), (7, .x true), (8, .x true), (9, .x true), (10, .x true)] (by kernel_rfl) ?_
          refine ws_l rfl rfl rfl rfl (rd_move rfl) ?_
          refine ws_l rfl rfl rfl rfl (rd_move rfl) ?_
          refine ws_l rfl rfl rfl rfl (rd_quo ((i / 4 : Nat) : Int) rfl rfl (by omega) (by rw [tdiv4, wrap_i64 _ (by omega) (by omega)])) ?_
          have gapc3 := idA pc 3 (by omega)
          refine ws_l rfl rfl rfl rfl (rd_ixArr 3 rfl rfl Try.underlying57 Try.sizeOf5 ⟨by omega, by omega⟩ rfl) ?_
          refine ws_l rfl rfl rfl rfl (rd_load rfl) ?_
          refine ws_l rfl rfl rfl rfl (rd_conv rfl (run_conv_int ((pc[3].toNat : Nat) : Int) Try.underlying5 Try.underlying3 (wrap_i64 _ (by omega) (by have := (pc[3]).toNat_lt; omega)))) ?_
          refine ws_l rfl rfl rfl rfl (rd_arith (((i / 4 + pc[3].toNat) : Nat) : Int) rfl rfl rfl (by have := (pc[3]).toNat_lt; rw [wrap_i64 _ (by omega) (by omega)]; omega)) ?_
          refine ws_l rfl rfl rfl rfl (rd_rem (((i / 4 + pc[3].toNat) % 3 : Nat) : Int) rfl rfl (by omega) (tmodN _ 3)) ?_
          obtain ⟨x, hx⟩ := at_ex (l := [m0 lv[0], m1 lv[1], m2 lv[2]]) (j := (i / 4 + pc[3].toNat) % 3) (Nat.mod_lt _ (by omega))
          have h3 : rekR x = (threeM lv[0] lv[1] lv[2]).r0 ∨ rekR x = (threeM lv[0] lv[1] lv[2]).r1 ∨ rekR x = (threeM lv[0] lv[1] lv[2]).r2 := by have hm := List.mem_of_getElem? hx; simp only [List.mem_cons, List.not_mem_nil, or_false] at hm; rcases hm with rfl | rfl | rfl; exact .inl rfl; exact .inr (.inl rfl); exact .inr (.inr rfl)
          have atx : AtM ([m0 lv[0], m1 lv[1], m2 lv[2]].flatMap mvL).toArray (0 + ((i / 4 + pc[3].toNat) % 3) * 7) x := at_mv (fun i v hv => by simpa using hv) hx
          have hj3 := Nat.mod_lt (i / 4 + pc[3].toNat) (show 0 < 3 by omega)
          refine ws_l rfl rfl rfl rfl (rd_index (0 + ((i / 4 + pc[3].toNat) % 3) * 7) rfl rfl Try.underlying22 Try.sizeOf41 ⟨by omega, by omega⟩ (by rw [Int.toNat_natCast])) ?_
          refine ws_l rfl rfl rfl rfl (rd_load rfl) ?_
          refine ws_store rfl rfl rfl rfl (by first | exact .inl (by assumption) | exact .inr (by simp)) (fun _ h _ => by first | (cases h; done) | exact List.mem_cons_of_mem _ h | exact List.mem_cons_of_mem _ (List.mem_cons_of_mem _ h) | (simp at h ⊢; simp [h])) ?_
          refine ws_nil ?_
          refine qe_block ?_
          refine qe_then ?_
          refine wc_seq ?_
          refine wc_plain [(0, .x true), (1, .x true), (2, .x true), (3, .x true), (4, .x true), (5, .x true), (6, .x true), (7, .x true)] (by kernel_rfl) ?_
          refine ws_l rfl rfl rfl rfl (rd_move rfl) ?_
          refine ws_l rfl rfl rfl rfl (rd_move rfl) ?_
          refine ws_l rfl rfl rfl rfl (rd_load rfl) ?_
          refine ws_callV (ringT m k es c ws d (facts W)) rfl rfl rfl rfl rfl (En.go) (fun w hp hn ho => add_law p m k es ws c d L W own hL hW hok (by omega) v10 νl hls x w (hp.mono SubH.mem) (SubH.nd hn)) (fun b hb => .inl (hfar b hb)) (fun hh q h => by first | (cases h; done) | exact hh q h | (simp only [List.mem_append, List.mem_cons] at h ⊢; grind) | skip) ?_
          rintro v115 wa wb hpo hon hon2 hp1 ⟨u1, ν1, rfl, hν1, hnd1, hfar1, hdisj, es1, c1, ws1, d1, L1, W1, hp2, hnd2, hfar2, hL1, hW1, hok1⟩
          refine ⟨ringT m k es1 c1 ws1 d1 (facts W1) ++ ν1, hp2.append hν1, hnd2, fun b hb => by rw [List.map_append, List.mem_append] at hb; exact hb.elim (hfar2 b) (fun h => .inl (hfar1 b h)), ?_⟩
          have hfar3 : ∀ b ∈ (ringT m k es1 c1 ws1 d1 (facts W1)).map Prod.fst, w.heap.size ≤ b := fun b hb => (hfar2 b hb).elim (fun h => Nat.le_trans hon.size h) (hfar b)
          have hls2 : Src (νl ++ ν1) u1 84 (addM own x).length ((addM own x).flatMap rkL) := hdisj.elim (fun h => by rw [h.1, h.2]; exact hls.mono (fun q hq => List.mem_append_left _ hq)) (fun h => h.src.mono (fun q hq => List.mem_append_right _ hq))
          simp only [List.cons_append, List.append_assoc]
          have hal := addM_len own x
          have ho3b := only_own ho3 h3
          have hjs := judge_own (threeM_ok _ _ _) ho3 h3 (number := ((pc[0].toNat % 4 : Nat) : Int)) (by omega) (key_pub ((1 : UInt8) + pc[1] % 4)) (leaf := ((pc[2].toNat % 8 : Nat) : Int)) (by omega) (id0.set 31 ((10 : UInt8) + pc[3] % 6))
          refine ws_l rfl rfl rfl rfl (rd_move rfl) ?_
          refine ws_l rfl rfl rfl rfl (rd_extract rfl) ?_
          refine ws_l rfl rfl rfl rfl (rd_extract rfl) ?_
          refine ws_l rfl rfl rfl rfl (rd_assign rfl) ?_
          refine ws_nil ?_
          refine qe_then ?_
          refine wc_seq ?_
          refine wc_drawn mixedT _ (fun _ h => h) [(0, .r), (1, .r), (2, .r), (3, .r), (5, .r), (6, .r), (4, .x false), (7, .x true), (8, .x true)] (by kernel_rfl) ?_
          refine ws_r rfl rfl rfl rfl (rd_move rfl) ?_
          refine ws_r rfl rfl rfl rfl (rd_load rfl) ?_
          refine ws_r rfl rfl rfl rfl (rd_move rfl) ?_
          refine ws_r rfl rfl rfl rfl (rd_load rfl) ?_
          refine ws_r rfl rfl rfl rfl (rd_move rfl) ?_
          refine ws_r rfl rfl rfl rfl (rd_load rfl) ?_
          refine ws_callp rfl rfl rfl rfl rfl (En.go) (fun w hp hn ho => to_ret _ w) ?_
          refine ws_late rfl ?_
          refine ws_callp rfl rfl rfl rfl rfl (En.go) (fun w hp hn ho => judge_ret p m k es1 ws1 c1 d1 L1 W1 (addM own x) hL1 hW1 hok1 (by have := addM_len own x; omega) hA _ _ _ _ w (hp.mono SubH.mem) (SubH.nd hn)) ?_
          refine ws_l rfl rfl rfl rfl (rd_assign rfl) ?_
          refine ws_nil ?_
          refine qe_then ?_
          refine wc_seq ?_
          refine wc_seq ?_
          refine wc_plain [(0, .x true), (1, .x true), (2, .x true), (3, .x true), (4, .x true), (5, .x true), (6, .x true)] (by kernel_rfl) ?_
          refine ws_l rfl rfl rfl rfl (rd_move rfl) ?_
          refine ws_l rfl rfl rfl rfl (rd_move rfl) ?_
          rcases hjs with hjs | hjs | ⟨hnow, hnext, x3, hx3, hxl⟩
          ·
            refine ws_l rfl rfl rfl rfl (rd_cmp_t rfl rfl rfl (by simp only [cmpP]; exact hjs)) ?_
            refine ws_l rfl rfl rfl rfl (rd_move rfl) ?_
            refine ws_xskip rfl rfl rfl rfl ?_
            refine ws_xskip rfl rfl rfl rfl ?_
            refine ws_l rfl rfl rfl rfl (rd_pick_t rfl rfl) ?_
            refine ws_nil ?_
            refine qe_then ?_
            refine wc_true rfl ?_
            refine wc_seq ?_
            refine wc_plain [(0, .x true), (1, .x true)] (by kernel_rfl) ?_
            refine ws_l rfl rfl rfl rfl (rd_move rfl) ?_
            refine ws_l rfl rfl rfl rfl (rd_assign rfl) ?_
            refine ws_nil ?_
            refine qe_then ?_
            refine wc_exit ?_
            refine qe_then_exit ?_
            refine qe_block_exit ?_
            refine qe_then ?_
            refine wc_plain [(0, .x true), (1, .x true), (2, .x true)] (by kernel_rfl) ?_
            refine ws_l rfl rfl rfl rfl (rd_move rfl) ?_
            refine ws_l rfl rfl rfl rfl (rd_arith (((i + 1 : Nat) : Nat) : Int) rfl rfl rfl (by rw [wrap_i64 _ (by omega) (by omega)]; omega)) ?_
            refine ws_l rfl rfl rfl rfl (rd_assign rfl) ?_
            refine ws_nil ?_
            exact qe_loop fun ac2 w2 hs2 => ⟨_, by (simp only [cmpP] at h66; omega), i + 1, es1, c1, ws1, d1, L1, W1, (addM own x), u1, (νl ++ ν1), rfl, (by simp only [cmpP] at h66; omega), (hL1), (hW1), (hok1), (hls2), (hfar3), (ho3b), (by omega), st_sub hs2 _ rfl⟩
          ·
            refine ws_lcmp rfl rfl rfl (rfl) (rfl) (rfl) ?_ ?_
            · intro h128
              refine ws_l rfl rfl rfl rfl (rd_move rfl) ?_
              refine ws_xskip rfl rfl rfl rfl ?_
              refine ws_xskip rfl rfl rfl rfl ?_
              refine ws_l rfl rfl rfl rfl (rd_pick_t rfl rfl) ?_
              refine ws_nil ?_
              refine qe_then ?_
              refine wc_true rfl ?_
              refine wc_seq ?_
              refine wc_plain [(0, .x true), (1, .x true)] (by kernel_rfl) ?_
              refine ws_l rfl rfl rfl rfl (rd_move rfl) ?_
              refine ws_l rfl rfl rfl rfl (rd_assign rfl) ?_
              refine ws_nil ?_
              refine qe_then ?_
              refine wc_exit ?_
              refine qe_then_exit ?_
              refine qe_block_exit ?_
              refine qe_then ?_
              refine wc_plain [(0, .x true), (1, .x true), (2, .x true)] (by kernel_rfl) ?_
              refine ws_l rfl rfl rfl rfl (rd_move rfl) ?_
              refine ws_l rfl rfl rfl rfl (rd_arith (((i + 1 : Nat) : Nat) : Int) rfl rfl rfl (by rw [wrap_i64 _ (by omega) (by omega)]; omega)) ?_
              refine ws_l rfl rfl rfl rfl (rd_assign rfl) ?_
              refine ws_nil ?_
              exact qe_loop fun ac2 w2 hs2 => ⟨_, by (simp only [cmpP] at h66; omega), i + 1, es1, c1, ws1, d1, L1, W1, (addM own x), u1, (νl ++ ν1), rfl, (by simp only [cmpP] at h66; omega), (hL1), (hW1), (hok1), (hls2), (hfar3), (ho3b), (by omega), st_sub hs2 _ rfl⟩
            · intro h128
              refine ws_l rfl rfl rfl rfl (rd_move rfl) ?_
              refine ws_l rfl rfl rfl rfl (rd_move rfl) ?_
              refine ws_l rfl rfl rfl rfl (rd_cmp_t rfl rfl rfl (by simp only [cmpP]; exact hjs)) ?_
              refine ws_l rfl rfl rfl rfl (rd_pick_f rfl rfl) ?_
              refine ws_nil ?_
              refine qe_then ?_
              refine wc_true rfl ?_
              refine wc_seq ?_
              refine wc_plain [(0, .x true), (1, .x true)] (by kernel_rfl) ?_
              refine ws_l rfl rfl rfl rfl (rd_move rfl) ?_
              refine ws_l rfl rfl rfl rfl (rd_assign rfl) ?_
              refine ws_nil ?_
              refine qe_then ?_
              refine wc_exit ?_
              refine qe_then_exit ?_
              refine qe_block_exit ?_
              refine qe_then ?_
              refine wc_plain [(0, .x true), (1, .x true), (2, .x true)] (by kernel_rfl) ?_
              refine ws_l rfl rfl rfl rfl (rd_move rfl) ?_
              refine ws_l rfl rfl rfl rfl (rd_arith (((i + 1 : Nat) : Nat) : Int) rfl rfl rfl (by rw [wrap_i64 _ (by omega) (by omega)]; omega)) ?_
              refine ws_l rfl rfl rfl rfl (rd_assign rfl) ?_
              refine ws_nil ?_
              exact qe_loop fun ac2 w2 hs2 => ⟨_, by (simp only [cmpP] at h66; omega), i + 1, es1, c1, ws1, d1, L1, W1, (addM own x), u1, (νl ++ ν1), rfl, (by simp only [cmpP] at h66; omega), (hL1), (hW1), (hok1), (hls2), (hfar3), (ho3b), (by omega), st_sub hs2 _ rfl⟩
          ·
            refine ws_l rfl rfl rfl rfl (rd_cmp_f rfl rfl rfl (by simp only [cmpP]; rw [hnow, hnext]; decide)) ?_
            refine ws_l rfl rfl rfl rfl (rd_move rfl) ?_
            refine ws_l rfl rfl rfl rfl (rd_move rfl) ?_
            refine ws_l rfl rfl rfl rfl (rd_cmp_f rfl rfl rfl (by simp only [cmpP]; rw [hnow]; decide)) ?_
            refine ws_l rfl rfl rfl rfl (rd_pick_f rfl rfl) ?_
            refine ws_nil ?_
            refine qe_then ?_
            refine wc_false rfl ?_
            refine wc_skip ?_
            refine qe_then ?_
            refine wc_seq ?_
            refine wc_plain [(0, .x true), (1, .x true), (2, .x true), (3, .x true), (4, .x true), (5, .x true), (6, .x true), (7, .x true), (8, .x true), (9, .x true)] (by kernel_rfl) ?_
            refine ws_l rfl rfl rfl rfl (rd_move rfl) ?_
            refine ws_l rfl rfl rfl rfl (rd_load rfl) ?_
            refine ws_l rfl rfl rfl rfl (rd_move rfl) ?_
            refine ws_callp rfl rfl rfl rfl rfl (En.go) (fun w hp hn ho => by have h := key_ret p m k es1 ws1 c1 d1 L1 W1 (addM own x) hL1 hW1 hok1 (by have := addM_len own x; omega) hA ((pc[0].toNat % 4 : Nat) : Int) w (hp.mono SubH.mem) (SubH.nd hn); rw [hx3] at h; exact h) ?_
            refine ws_l rfl rfl rfl rfl (rd_move rfl) ?_
            refine ws_l rfl rfl rfl rfl (rd_extract rfl) ?_
            refine ws_l rfl rfl rfl rfl (rd_extract rfl) ?_
            refine ws_alloc rfl rfl rfl ?_
            intro b22 hb22
            refine ws_store rfl rfl rfl rfl (by first | exact .inl (by assumption) | exact .inr (by simp)) (fun _ h _ => by first | (cases h; done) | exact List.mem_cons_of_mem _ h | exact List.mem_cons_of_mem _ (List.mem_cons_of_mem _ h) | (simp at h ⊢; simp [h])) ?_
            refine ws_l rfl rfl rfl rfl (rd_assign rfl) ?_
            refine ws_nil ?_
            refine qe_then ?_
            refine wc_seq ?_
            refine wc_seq ?_
            refine wc_plain [(0, .x true), (1, .x true), (2, .x true), (3, .x true), (4, .x true), (5, .x true), (6, .x true), (7, .x true), (8, .x true), (9, .x true), (10, .x true), (11, .x true), (12, .x true), (13, .x true), (14, .x true), (15, .x true)] (by kernel_rfl) ?_
            refine ws_l rfl rfl rfl rfl (rd_move rfl) ?_
            refine ws_l rfl rfl rfl rfl (rd_cmp_f rfl rfl rfl (by simp only [cmpP]; rw [hnow]; decide)) ?_
            refine ws_l rfl rfl rfl rfl (rd_move rfl) ?_
            refine ws_l rfl rfl rfl rfl (rd_move rfl) ?_
            refine ws_l rfl rfl rfl rfl (rd_cmp_f rfl rfl rfl (by simp only [cmpP]; rw [hnext]; decide)) ?_
            refine ws_l rfl rfl rfl rfl (rd_pick_f rfl rfl) ?_
            refine ws_l rfl rfl rfl rfl (rd_move rfl) ?_
            refine ws_l rfl rfl rfl rfl (rd_move rfl) ?_
            refine ws_l rfl rfl rfl rfl (rd_not rfl) ?_
            refine ws_l rfl rfl rfl rfl (rd_pick_f rfl rfl) ?_
            refine ws_l rfl rfl rfl rfl (rd_move rfl) ?_
            refine ws_l rfl rfl rfl rfl (rd_move rfl) ?_
            refine ws_l rfl rfl rfl rfl (rd_fieldAddr rfl) ?_
            refine ws_l rfl rfl rfl rfl (rd_load rfl) ?_
            refine ws_l rfl rfl rfl rfl (rd_cmp_f rfl rfl rfl (by simp only [cmpP, Option.getD_some]; exact Int.not_lt.2 hxl)) ?_
            refine ws_l rfl rfl rfl rfl (rd_pick_f rfl rfl) ?_
            refine ws_nil ?_
            refine qe_then ?_
            refine wc_false rfl ?_
            refine wc_skip ?_
            refine qe_then ?_
            refine wc_plain [(0, .x true), (1, .x true)] (by kernel_rfl) ?_
            refine ws_l rfl rfl rfl rfl (rd_move rfl) ?_
            refine ws_l rfl rfl rfl rfl (rd_assign rfl) ?_
            refine ws_nil ?_
            refine qe_block ?_
            refine qe_then ?_
            refine wc_plain [(0, .x true), (1, .x true), (2, .x true)] (by kernel_rfl) ?_
            refine ws_l rfl rfl rfl rfl (rd_move rfl) ?_
            refine ws_l rfl rfl rfl rfl (rd_arith (((i + 1 : Nat) : Nat) : Int) rfl rfl rfl (by rw [wrap_i64 _ (by omega) (by omega)]; omega)) ?_
            refine ws_l rfl rfl rfl rfl (rd_assign rfl) ?_
            refine ws_nil ?_
            exact qe_loop fun ac2 w2 hs2 => ⟨_, by (simp only [cmpP] at h66; omega), i + 1, es1, c1, ws1, d1, L1, W1, (addM own x), u1, (νl ++ ν1), rfl, (by simp only [cmpP] at h66; omega), (hL1), (hW1), (hok1), (hls2), (hfar3), (ho3b), (by omega), st_sub hs2 _ rfl⟩
        · intro h76
          refine ws_l rfl rfl rfl rfl (rd_pick_t rfl rfl) ?_
          refine ws_l rfl rfl rfl rfl (rd_assign rfl) ?_
          refine ws_nil ?_
          refine qe_then ?_
          refine wc_false rfl ?_
          refine wc_seq ?_
          refine wc_plain [(0, .x true), (1, .x true), (2, .x true), (3, .x true), (4, .x true)] (by kernel_rfl) ?_
          refine ws_l rfl rfl rfl rfl (rd_move rfl) ?_
          refine ws_l rfl rfl rfl rfl (rd_move rfl) ?_
          refine ws_l rfl rfl rfl rfl (rd_lenS hsrc rfl Try.underlying22) ?_
          refine ws_lcmp rfl rfl rfl (rfl) (rfl) (rfl) ?_ ?_
          · intro h92
            refine ws_l rfl rfl rfl rfl (rd_assign rfl) ?_
            refine ws_nil ?_
            refine qe_then ?_
            refine wc_true rfl ?_
            refine wc_seq ?_
            refine wc_plain [(0, .x true), (1, .x true), (2, .x true), (3, .x true), (4, .x true)] (by kernel_rfl) ?_
            refine ws_l rfl rfl rfl rfl (rd_move rfl) ?_
            refine ws_l rfl rfl rfl rfl (rd_move rfl) ?_
            have hjl : i < ms.length := by simp only [cmpP] at h92; omega
            obtain ⟨bg, og, cg, csg, Eg, frg, rfl, hmg, hcg⟩ := Src.opened hsrc (by omega)
            have hmig : HM bg (.cells csg Eg frg) φ := ⟨hmg⟩
            obtain ⟨x, hx⟩ := at_ex (l := ms) (j := i) (by omega)
            have atx : AtM csg (og + i * 7) x := at_mv hcg hx
            refine ws_l rfl rfl rfl rfl (rd_index (og + i * 7) rfl rfl Try.underlying22 Try.sizeOf41 ⟨by omega, by omega⟩ (by simp)) ?_
            refine ws_l rfl rfl rfl rfl (rd_load rfl) ?_
            refine ws_store rfl rfl rfl rfl (by first | exact .inl (by assumption) | exact .inr (by simp)) (fun _ h _ => by first | (cases h; done) | exact List.mem_cons_of_mem _ h | exact List.mem_cons_of_mem _ (List.mem_cons_of_mem _ h) | (simp at h ⊢; simp [h])) ?_
            refine ws_nil ?_
            refine qe_then ?_
            refine wc_seq ?_
            refine wc_plain [(0, .x true), (1, .x true), (2, .x true), (3, .x true), (4, .x true)] (by kernel_rfl) ?_
            refine ws_l rfl rfl rfl rfl (rd_fieldAddr rfl) ?_
            refine ws_l rfl rfl rfl rfl (rd_load rfl) ?_
            refine ws_l rfl rfl rfl rfl (rd_rem (((x.id % 13 : UInt8).toNat : Nat) : Int) rfl rfl (by omega) (u8_rem x.id 13 (by omega))) ?_
            refine ws_l rfl rfl rfl rfl (rd_fieldAddr rfl) ?_
            refine ws_store rfl rfl rfl rfl (by first | exact .inl (by assumption) | exact .inr (by simp)) (fun _ h _ => by first | (cases h; done) | exact List.mem_cons_of_mem _ h | exact List.mem_cons_of_mem _ (List.mem_cons_of_mem _ h) | (simp at h ⊢; simp [h])) ?_
            refine ws_nil ?_
            refine qe_then ?_
            refine wc_seq ?_
            refine wc_plain [(0, .x true), (1, .x true), (2, .x true), (3, .x true), (4, .x true), (5, .x true), (6, .x true), (7, .x true), (8, .x true), (9, .x true)] (by kernel_rfl) ?_
            refine ws_l rfl rfl rfl rfl (rd_load rfl) ?_
            refine ws_callp rfl rfl rfl rfl rfl (En.go) (fun w hp hn ho => rekey_ret _ w) ?_
            refine ws_l rfl rfl rfl rfl (rd_move rfl) ?_
            refine ws_l rfl rfl rfl rfl (rd_extract rfl) ?_
            refine ws_l rfl rfl rfl rfl (rd_extract rfl) ?_
            refine ws_l rfl rfl rfl rfl (rd_extract rfl) ?_
            refine ws_alloc rfl rfl rfl ?_
            intro b18 hb18
            refine ws_store rfl rfl rfl rfl (by first | exact .inl (by assumption) | exact .inr (by simp)) (fun _ h _ => by first | (cases h; done) | exact List.mem_cons_of_mem _ h | exact List.mem_cons_of_mem _ (List.mem_cons_of_mem _ h) | (simp at h ⊢; simp [h])) ?_
            refine ws_l rfl rfl rfl rfl (rd_assign rfl) ?_
            refine ws_l rfl rfl rfl rfl (rd_assign rfl) ?_
            refine ws_nil ?_
            refine qe_then ?_
            refine wc_seq ?_
            refine wc_plain [(0, .x true), (1, .x true), (2, .x true), (3, .x true)] (by kernel_rfl) ?_
            refine ws_l rfl rfl rfl rfl (rd_fieldAddr rfl) ?_
            refine ws_l rfl rfl rfl rfl (rd_load rfl) ?_
            refine ws_l rfl rfl rfl rfl (rd_load rfl) ?_
            refine ws_lp _ rfl rfl rfl rfl (rd_eqid rfl rfl Try.underlying29 (by kernel_rfl)) ?_ ?_
            · intro h110
              refine ws_nil ?_
              refine qe_then ?_
              refine wc_true rfl ?_
              refine wc_exit ?_
              refine qe_block_exit' rfl ?_
              refine qe_then_exit ?_
              refine qe_block_exit ?_
              refine qe_then ?_
              refine wc_plain [(0, .x true), (1, .x true), (2, .x true)] (by kernel_rfl) ?_
              refine ws_l rfl rfl rfl rfl (rd_move rfl) ?_
              refine ws_l rfl rfl rfl rfl (rd_arith (((i + 1 : Nat) : Nat) : Int) rfl rfl rfl (by rw [wrap_i64 _ (by omega) (by omega)]; omega)) ?_
              refine ws_l rfl rfl rfl rfl (rd_assign rfl) ?_
              refine ws_nil ?_
              exact qe_loop fun ac2 w2 hs2 => ⟨_, by (simp only [cmpP] at h66; omega), i + 1, es, c, ws, d, L, W, own, v10, νl, rfl, (by simp only [cmpP] at h66; omega), (hL), (hW), (hok), (hls), (hfar), (ho3), (by omega), st_sub hs2 _ rfl⟩
            · intro h110
              have hne : (rekR { x with id := x.id % 13 }).au ≠ hA := h110
              refine ws_nil ?_
              refine qe_then ?_
              refine wc_false rfl ?_
              refine wc_skip ?_
              refine qe_block ?_
              refine qe_then ?_
              refine wc_seq ?_
              refine wc_plain [(0, .x true), (1, .x true), (2, .x true), (3, .x true), (4, .x true), (5, .x true), (6, .x true), (7, .x true)] (by kernel_rfl) ?_
              refine ws_l rfl rfl rfl rfl (rd_move rfl) ?_
              refine ws_l rfl rfl rfl rfl (rd_move rfl) ?_
              refine ws_l rfl rfl rfl rfl (rd_load rfl) ?_
              refine ws_callV (ringT m k es c ws d (facts W)) rfl rfl rfl rfl rfl (En.go) (fun w hp hn ho => add_law p m k es ws c d L W own hL hW hok (by omega) v10 νl hls { x with id := x.id % 13 } w (hp.mono SubH.mem) (SubH.nd hn)) (fun b hb => .inl (hfar b hb)) (fun hh q h => by first | (cases h; done) | exact hh q h | (simp only [List.mem_append, List.mem_cons] at h ⊢; grind) | skip) ?_
              rintro v115 wa wb hpo hon hon2 hp1 ⟨u1, ν1, rfl, hν1, hnd1, hfar1, hdisj, es1, c1, ws1, d1, L1, W1, hp2, hnd2, hfar2, hL1, hW1, hok1⟩
              refine ⟨ringT m k es1 c1 ws1 d1 (facts W1) ++ ν1, hp2.append hν1, hnd2, fun b hb => by rw [List.map_append, List.mem_append] at hb; exact hb.elim (hfar2 b) (fun h => .inl (hfar1 b h)), ?_⟩
              have hfar3 : ∀ b ∈ (ringT m k es1 c1 ws1 d1 (facts W1)).map Prod.fst, w.heap.size ≤ b := fun b hb => (hfar2 b hb).elim (fun h => Nat.le_trans hon.size h) (hfar b)
              have hls2 : Src (νl ++ ν1) u1 84 (addM own { x with id := x.id % 13 }).length ((addM own { x with id := x.id % 13 }).flatMap rkL) := hdisj.elim (fun h => by rw [h.1, h.2]; exact hls.mono (fun q hq => List.mem_append_left _ hq)) (fun h => h.src.mono (fun q hq => List.mem_append_right _ hq))
              simp only [List.cons_append, List.append_assoc]
              have hal := addM_len own { x with id := x.id % 13 }
              have ho3b := only_other ho3 hne
              have hjs := judge_other (own := own) hne ((pc[0].toNat % 4 : Nat) : Int) (pubV ((1 : UInt8) + pc[1] % 4)) ((pc[2].toNat % 8 : Nat) : Int) (id0.set 31 ((10 : UInt8) + pc[3] % 6))
              refine ws_l rfl rfl rfl rfl (rd_move rfl) ?_
              refine ws_l rfl rfl rfl rfl (rd_extract rfl) ?_
              refine ws_l rfl rfl rfl rfl (rd_extract rfl) ?_
              refine ws_l rfl rfl rfl rfl (rd_assign rfl) ?_
              refine ws_nil ?_
              refine qe_then ?_
              refine wc_seq ?_
              refine wc_drawn mixedT _ (fun _ h => h) [(0, .r), (1, .r), (2, .r), (3, .r), (5, .r), (6, .r), (4, .x false), (7, .x true), (8, .x true)] (by kernel_rfl) ?_
              refine ws_r rfl rfl rfl rfl (rd_move rfl) ?_
              refine ws_r rfl rfl rfl rfl (rd_load rfl) ?_
              refine ws_r rfl rfl rfl rfl (rd_move rfl) ?_
              refine ws_r rfl rfl rfl rfl (rd_load rfl) ?_
              refine ws_r rfl rfl rfl rfl (rd_move rfl) ?_
              refine ws_r rfl rfl rfl rfl (rd_load rfl) ?_
              refine ws_callp rfl rfl rfl rfl rfl (En.go) (fun w hp hn ho => to_ret _ w) ?_
              refine ws_late rfl ?_
              refine ws_callp rfl rfl rfl rfl rfl (En.go) (fun w hp hn ho => judge_ret p m k es1 ws1 c1 d1 L1 W1 (addM own { x with id := x.id % 13 }) hL1 hW1 hok1 (by have := addM_len own { x with id := x.id % 13 }; omega) hA _ _ _ _ w (hp.mono SubH.mem) (SubH.nd hn)) ?_
              refine ws_l rfl rfl rfl rfl (rd_assign rfl) ?_
              refine ws_nil ?_
              refine qe_then ?_
              refine wc_seq ?_
              refine wc_seq ?_
              refine wc_plain [(0, .x true), (1, .x true), (2, .x true), (3, .x true), (4, .x true), (5, .x true), (6, .x true)] (by kernel_rfl) ?_
              refine ws_l rfl rfl rfl rfl (rd_move rfl) ?_
              refine ws_l rfl rfl rfl rfl (rd_move rfl) ?_
              refine ws_l rfl rfl rfl rfl (rd_cmp_t rfl rfl rfl (by simp only [cmpP]; exact hjs)) ?_
              refine ws_l rfl rfl rfl rfl (rd_move rfl) ?_
              refine ws_xskip rfl rfl rfl rfl ?_
              refine ws_xskip rfl rfl rfl rfl ?_
              refine ws_l rfl rfl rfl rfl (rd_pick_t rfl rfl) ?_
              refine ws_nil ?_
              refine qe_then ?_
              refine wc_true rfl ?_
              refine wc_seq ?_
              refine wc_plain [(0, .x true), (1, .x true)] (by kernel_rfl) ?_
              refine ws_l rfl rfl rfl rfl (rd_move rfl) ?_
              refine ws_l rfl rfl rfl rfl (rd_assign rfl) ?_
              refine ws_nil ?_
              refine qe_then ?_
              refine wc_exit ?_
              refine qe_then_exit ?_
              refine qe_block_exit ?_
              refine qe_then ?_
              refine wc_plain [(0, .x true), (1, .x true), (2, .x true)] (by kernel_rfl) ?_
              refine ws_l rfl rfl rfl rfl (rd_move rfl) ?_
              refine ws_l rfl rfl rfl rfl (rd_arith (((i + 1 : Nat) : Nat) : Int) rfl rfl rfl (by rw [wrap_i64 _ (by omega) (by omega)]; omega)) ?_
              refine ws_l rfl rfl rfl rfl (rd_assign rfl) ?_
              refine ws_nil ?_
              exact qe_loop fun ac2 w2 hs2 => ⟨_, by (simp only [cmpP] at h66; omega), i + 1, es1, c1, ws1, d1, L1, W1, (addM own { x with id := x.id % 13 }), u1, (νl ++ ν1), rfl, (by simp only [cmpP] at h66; omega), (hL1), (hW1), (hok1), (hls2), (hfar3), (ho3b), (by omega), st_sub hs2 _ rfl⟩
          · intro h92
            refine ws_l rfl rfl rfl rfl (rd_assign rfl) ?_
            refine ws_nil ?_
            refine qe_then ?_
            refine wc_false rfl ?_
            refine wc_exit ?_
            refine qe_block_exit' rfl ?_
            refine qe_then_exit ?_
            refine qe_block_exit ?_
            refine qe_then ?_
            refine wc_plain [(0, .x true), (1, .x true), (2, .x true)] (by kernel_rfl) ?_
            refine ws_l rfl rfl rfl rfl (rd_move rfl) ?_
            refine ws_l rfl rfl rfl rfl (rd_arith (((i + 1 : Nat) : Nat) : Int) rfl rfl rfl (by rw [wrap_i64 _ (by omega) (by omega)]; omega)) ?_
            refine ws_l rfl rfl rfl rfl (rd_assign rfl) ?_
            refine ws_nil ?_
            exact qe_loop fun ac2 w2 hs2 => ⟨_, by (simp only [cmpP] at h66; omega), i + 1, es, c, ws, d, L, W, own, v10, νl, rfl, (by simp only [cmpP] at h66; omega), (hL), (hW), (hok), (hls), (hfar), (ho3), (by omega), st_sub hs2 _ rfl⟩
      · intro h72
        refine ws_l rfl rfl rfl rfl (rd_move rfl) ?_
        refine ws_xskip rfl rfl rfl rfl ?_
        refine ws_xskip rfl rfl rfl rfl ?_
        refine ws_xskip rfl rfl rfl rfl ?_
        refine ws_l rfl rfl rfl rfl (rd_pick_f rfl rfl) ?_
        refine ws_l rfl rfl rfl rfl (rd_assign rfl) ?_
        refine ws_nil ?_
        refine qe_then ?_
        refine wc_false rfl ?_
        refine wc_seq ?_
        refine wc_plain [(0, .x true), (1, .x true), (2, .x true), (3, .x true), (4, .x true)] (by kernel_rfl) ?_
        refine ws_l rfl rfl rfl rfl (rd_move rfl) ?_
        refine ws_l rfl rfl rfl rfl (rd_move rfl) ?_
        refine ws_l rfl rfl rfl rfl (rd_lenS hsrc rfl Try.underlying22) ?_
        refine ws_lcmp rfl rfl rfl (rfl) (rfl) (rfl) ?_ ?_
        · intro h92
          refine ws_l rfl rfl rfl rfl (rd_assign rfl) ?_
          refine ws_nil ?_
          refine qe_then ?_
          refine wc_true rfl ?_
          refine wc_seq ?_
          refine wc_plain [(0, .x true), (1, .x true), (2, .x true), (3, .x true), (4, .x true)] (by kernel_rfl) ?_
          refine ws_l rfl rfl rfl rfl (rd_move rfl) ?_
          refine ws_l rfl rfl rfl rfl (rd_move rfl) ?_
          have hjl : i < ms.length := by simp only [cmpP] at h92; omega
          obtain ⟨bg, og, cg, csg, Eg, frg, rfl, hmg, hcg⟩ := Src.opened hsrc (by omega)
          have hmig : HM bg (.cells csg Eg frg) φ := ⟨hmg⟩
          obtain ⟨x, hx⟩ := at_ex (l := ms) (j := i) (by omega)
          have atx : AtM csg (og + i * 7) x := at_mv hcg hx
          refine ws_l rfl rfl rfl rfl (rd_index (og + i * 7) rfl rfl Try.underlying22 Try.sizeOf41 ⟨by omega, by omega⟩ (by simp)) ?_
          refine ws_l rfl rfl rfl rfl (rd_load rfl) ?_
          refine ws_store rfl rfl rfl rfl (by first | exact .inl (by assumption) | exact .inr (by simp)) (fun _ h _ => by first | (cases h; done) | exact List.mem_cons_of_mem _ h | exact List.mem_cons_of_mem _ (List.mem_cons_of_mem _ h) | (simp at h ⊢; simp [h])) ?_
          refine ws_nil ?_
          refine qe_then ?_
          refine wc_seq ?_
          refine wc_plain [(0, .x true), (1, .x true), (2, .x true), (3, .x true), (4, .x true)] (by kernel_rfl) ?_
          refine ws_l rfl rfl rfl rfl (rd_fieldAddr rfl) ?_
          refine ws_l rfl rfl rfl rfl (rd_load rfl) ?_
          refine ws_l rfl rfl rfl rfl (rd_rem (((x.id % 13 : UInt8).toNat : Nat) : Int) rfl rfl (by omega) (u8_rem x.id 13 (by omega))) ?_
          refine ws_l rfl rfl rfl rfl (rd_fieldAddr rfl) ?_
          refine ws_store rfl rfl rfl rfl (by first | exact .inl (by assumption) | exact .inr (by simp)) (fun _ h _ => by first | (cases h; done) | exact List.mem_cons_of_mem _ h | exact List.mem_cons_of_mem _ (List.mem_cons_of_mem _ h) | (simp at h ⊢; simp [h])) ?_
          refine ws_nil ?_
          refine qe_then ?_
          refine wc_seq ?_
          refine wc_plain [(0, .x true), (1, .x true), (2, .x true), (3, .x true), (4, .x true), (5, .x true), (6, .x true), (7, .x true), (8, .x true), (9, .x true)] (by kernel_rfl) ?_
          refine ws_l rfl rfl rfl rfl (rd_load rfl) ?_
          refine ws_callp rfl rfl rfl rfl rfl (En.go) (fun w hp hn ho => rekey_ret _ w) ?_
          refine ws_l rfl rfl rfl rfl (rd_move rfl) ?_
          refine ws_l rfl rfl rfl rfl (rd_extract rfl) ?_
          refine ws_l rfl rfl rfl rfl (rd_extract rfl) ?_
          refine ws_l rfl rfl rfl rfl (rd_extract rfl) ?_
          refine ws_alloc rfl rfl rfl ?_
          intro b18 hb18
          refine ws_store rfl rfl rfl rfl (by first | exact .inl (by assumption) | exact .inr (by simp)) (fun _ h _ => by first | (cases h; done) | exact List.mem_cons_of_mem _ h | exact List.mem_cons_of_mem _ (List.mem_cons_of_mem _ h) | (simp at h ⊢; simp [h])) ?_
          refine ws_l rfl rfl rfl rfl (rd_assign rfl) ?_
          refine ws_l rfl rfl rfl rfl (rd_assign rfl) ?_
          refine ws_nil ?_
          refine qe_then ?_
          refine wc_seq ?_
          refine wc_plain [(0, .x true), (1, .x true), (2, .x true), (3, .x true)] (by kernel_rfl) ?_
          refine ws_l rfl rfl rfl rfl (rd_fieldAddr rfl) ?_
          refine ws_l rfl rfl rfl rfl (rd_load rfl) ?_
          refine ws_l rfl rfl rfl rfl (rd_load rfl) ?_
          refine ws_lp _ rfl rfl rfl rfl (rd_eqid rfl rfl Try.underlying29 (by kernel_rfl)) ?_ ?_
          · intro h110
            refine ws_nil ?_
            refine qe_then ?_
            refine wc_true rfl ?_
            refine wc_exit ?_
            refine qe_block_exit' rfl ?_
            refine qe_then_exit ?_
            refine qe_block_exit ?_
            refine qe_then ?_
            refine wc_plain [(0, .x true), (1, .x true), (2, .x true)] (by kernel_rfl) ?_
            refine ws_l rfl rfl rfl rfl (rd_move rfl) ?_
            refine ws_l rfl rfl rfl rfl (rd_arith (((i + 1 : Nat) : Nat) : Int) rfl rfl rfl (by rw [wrap_i64 _ (by omega) (by omega)]; omega)) ?_
            refine ws_l rfl rfl rfl rfl (rd_assign rfl) ?_
            refine ws_nil ?_
            exact qe_loop fun ac2 w2 hs2 => ⟨_, by (simp only [cmpP] at h66; omega), i + 1, es, c, ws, d, L, W, own, v10, νl, rfl, (by simp only [cmpP] at h66; omega), (hL), (hW), (hok), (hls), (hfar), (ho3), (by omega), st_sub hs2 _ rfl⟩
          · intro h110
            have hne : (rekR { x with id := x.id % 13 }).au ≠ hA := h110
            refine ws_nil ?_
            refine qe_then ?_
            refine wc_false rfl ?_
            refine wc_skip ?_
            refine qe_block ?_
            refine qe_then ?_
            refine wc_seq ?_
            refine wc_plain [(0, .x true), (1, .x true), (2, .x true), (3, .x true), (4, .x true), (5, .x true), (6, .x true), (7, .x true)] (by kernel_rfl) ?_
            refine ws_l rfl rfl rfl rfl (rd_move rfl) ?_
            refine ws_l rfl rfl rfl rfl (rd_move rfl) ?_
            refine ws_l rfl rfl rfl rfl (rd_load rfl) ?_
            refine ws_callV (ringT m k es c ws d (facts W)) rfl rfl rfl rfl rfl (En.go) (fun w hp hn ho => add_law p m k es ws c d L W own hL hW hok (by omega) v10 νl hls { x with id := x.id % 13 } w (hp.mono SubH.mem) (SubH.nd hn)) (fun b hb => .inl (hfar b hb)) (fun hh q h => by first | (cases h; done) | exact hh q h | (simp only [List.mem_append, List.mem_cons] at h ⊢; grind) | skip) ?_
            rintro v115 wa wb hpo hon hon2 hp1 ⟨u1, ν1, rfl, hν1, hnd1, hfar1, hdisj, es1, c1, ws1, d1, L1, W1, hp2, hnd2, hfar2, hL1, hW1, hok1⟩
            refine ⟨ringT m k es1 c1 ws1 d1 (facts W1) ++ ν1, hp2.append hν1, hnd2, fun b hb => by rw [List.map_append, List.mem_append] at hb; exact hb.elim (hfar2 b) (fun h => .inl (hfar1 b h)), ?_⟩
            have hfar3 : ∀ b ∈ (ringT m k es1 c1 ws1 d1 (facts W1)).map Prod.fst, w.heap.size ≤ b := fun b hb => (hfar2 b hb).elim (fun h => Nat.le_trans hon.size h) (hfar b)
            have hls2 : Src (νl ++ ν1) u1 84 (addM own { x with id := x.id % 13 }).length ((addM own { x with id := x.id % 13 }).flatMap rkL) := hdisj.elim (fun h => by rw [h.1, h.2]; exact hls.mono (fun q hq => List.mem_append_left _ hq)) (fun h => h.src.mono (fun q hq => List.mem_append_right _ hq))
            simp only [List.cons_append, List.append_assoc]
            have hal := addM_len own { x with id := x.id % 13 }
            have ho3b := only_other ho3 hne
            have hjs := judge_other (own := own) hne ((pc[0].toNat % 4 : Nat) : Int) (pubV ((1 : UInt8) + pc[1] % 4)) ((pc[2].toNat % 8 : Nat) : Int) (id0.set 31 ((10 : UInt8) + pc[3] % 6))
            refine ws_l rfl rfl rfl rfl (rd_move rfl) ?_
            refine ws_l rfl rfl rfl rfl (rd_extract rfl) ?_
            refine ws_l rfl rfl rfl rfl (rd_extract rfl) ?_
            refine ws_l rfl rfl rfl rfl (rd_assign rfl) ?_
            refine ws_nil ?_
            refine qe_then ?_
            refine wc_seq ?_
            refine wc_drawn mixedT _ (fun _ h => h) [(0, .r), (1, .r), (2, .r), (3, .r), (5, .r), (6, .r), (4, .x false), (7, .x true), (8, .x true)] (by kernel_rfl) ?_
            refine ws_r rfl rfl rfl rfl (rd_move rfl) ?_
            refine ws_r rfl rfl rfl rfl (rd_load rfl) ?_
            refine ws_r rfl rfl rfl rfl (rd_move rfl) ?_
            refine ws_r rfl rfl rfl rfl (rd_load rfl) ?_
            refine ws_r rfl rfl rfl rfl (rd_move rfl) ?_
            refine ws_r rfl rfl rfl rfl (rd_load rfl) ?_
            refine ws_callp rfl rfl rfl rfl rfl (En.go) (fun w hp hn ho => to_ret _ w) ?_
            refine ws_late rfl ?_
            refine ws_callp rfl rfl rfl rfl rfl (En.go) (fun w hp hn ho => judge_ret p m k es1 ws1 c1 d1 L1 W1 (addM own { x with id := x.id % 13 }) hL1 hW1 hok1 (by have := addM_len own { x with id := x.id % 13 }; omega) hA _ _ _ _ w (hp.mono SubH.mem) (SubH.nd hn)) ?_
            refine ws_l rfl rfl rfl rfl (rd_assign rfl) ?_
            refine ws_nil ?_
            refine qe_then ?_
            refine wc_seq ?_
            refine wc_seq ?_
            refine wc_plain [(0, .x true), (1, .x true), (2, .x true), (3, .x true), (4, .x true), (5, .x true), (6, .x true)] (by kernel_rfl) ?_
            refine ws_l rfl rfl rfl rfl (rd_move rfl) ?_
            refine ws_l rfl rfl rfl rfl (rd_move rfl) ?_
            refine ws_l rfl rfl rfl rfl (rd_cmp_t rfl rfl rfl (by simp only [cmpP]; exact hjs)) ?_
            refine ws_l rfl rfl rfl rfl (rd_move rfl) ?_
            refine ws_xskip rfl rfl rfl rfl ?_
            refine ws_xskip rfl rfl rfl rfl ?_
            refine ws_l rfl rfl rfl rfl (rd_pick_t rfl rfl) ?_
            refine ws_nil ?_
            refine qe_then ?_
            refine wc_true rfl ?_
            refine wc_seq ?_
            refine wc_plain [(0, .x true), (1, .x true)] (by kernel_rfl) ?_
            refine ws_l rfl rfl rfl rfl (rd_move rfl) ?_
            refine ws_l rfl rfl rfl rfl (rd_assign rfl) ?_
            refine ws_nil ?_
            refine qe_then ?_
            refine wc_exit ?_
            refine qe_then_exit ?_
            refine qe_block_exit ?_
            refine qe_then ?_
            refine wc_plain [(0, .x true), (1, .x true), (2, .x true)] (by kernel_rfl) ?_
            refine ws_l rfl rfl rfl rfl (rd_move rfl) ?_
            refine ws_l rfl rfl rfl rfl (rd_arith (((i + 1 : Nat) : Nat) : Int) rfl rfl rfl (by rw [wrap_i64 _ (by omega) (by omega)]; omega)) ?_
            refine ws_l rfl rfl rfl rfl (rd_assign rfl) ?_
            refine ws_nil ?_
            exact qe_loop fun ac2 w2 hs2 => ⟨_, by (simp only [cmpP] at h66; omega), i + 1, es1, c1, ws1, d1, L1, W1, (addM own { x with id := x.id % 13 }), u1, (νl ++ ν1), rfl, (by simp only [cmpP] at h66; omega), (hL1), (hW1), (hok1), (hls2), (hfar3), (ho3b), (by omega), st_sub hs2 _ rfl⟩
        · intro h92
          refine ws_l rfl rfl rfl rfl (rd_assign rfl) ?_
          refine ws_nil ?_
          refine qe_then ?_
          refine wc_false rfl ?_
          refine wc_exit ?_
          refine qe_block_exit' rfl ?_
          refine qe_then_exit ?_
          refine qe_block_exit ?_
          refine qe_then ?_
          refine wc_plain [(0, .x true), (1, .x true), (2, .x true)] (by kernel_rfl) ?_
          refine ws_l rfl rfl rfl rfl (rd_move rfl) ?_
          refine ws_l rfl rfl rfl rfl (rd_arith (((i + 1 : Nat) : Nat) : Int) rfl rfl rfl (by rw [wrap_i64 _ (by omega) (by omega)]; omega)) ?_
          refine ws_l rfl rfl rfl rfl (rd_assign rfl) ?_
          refine ws_nil ?_
          exact qe_loop fun ac2 w2 hs2 => ⟨_, by (simp only [cmpP] at h66; omega), i + 1, es, c, ws, d, L, W, own, v10, νl, rfl, (by simp only [cmpP] at h66; omega), (hL), (hW), (hok), (hls), (hfar), (ho3), (by omega), st_sub hs2 _ rfl⟩
    · intro h66
      refine ws_nil ?_
      refine qe_then ?_
      refine wc_false rfl ?_
      refine wc_exit ?_
      refine qe_then_exit ?_
      refine qe_then_exit ?_
      refine qe_block_exit ?_
      refine qe_then ?_
      refine wc_keep [] rfl ?_
      refine wc_seq ?_
      refine wc_plain [(0, .x true)] (by kernel_rfl) ?_
      refine ws_l rfl rfl rfl rfl (rd_assign rfl) ?_
      refine ws_nil ?_
      refine qe_then ?_
      refine wc_ret ?_
      refine qe_body _ (.inl rfl) (res1 rfl (RV.tmp rfl)) ?_
      exact ret_end fun w hp hn ho => rfl
  · intro hrest
    refine od_r ?_
    have gapc0 := idA pc 0 (by omega)
    have gapc1 := idA pc 1 (by omega)
    have gapc2 := idA pc 2 (by omega)
    have gapc3 := idA pc 3 (by omega)
    refine ws_r rfl rfl rfl rfl (rd_ixArr 0 rfl rfl Try.underlying57 Try.sizeOf5 ⟨by omega, by omega⟩ rfl) ?_
    refine od_go ?_
    refine od_r ?_
    refine ws_r rfl rfl rfl rfl (rd_load rfl) ?_
    refine od_go ?_
    refine od_r ?_
    refine ws_r rfl rfl rfl rfl (rd_conv rfl (run_conv_int ((pc[0].toNat : Nat) : Int) Try.underlying5 Try.underlying3 (wrap_i64 _ (by omega) (by have := (pc[0]).toNat_lt; omega)))) ?_
    refine od_go ?_
    refine od_r ?_
    refine ws_r rfl rfl rfl rfl (rd_rem ((pc[0].toNat % 4 : Nat) : Int) rfl rfl (by omega) (tmodN _ 4)) ?_
    refine od_go ?_
    refine od_r ?_
    refine ws_r rfl rfl rfl rfl (rd_ixArr 1 rfl rfl Try.underlying57 Try.sizeOf5 ⟨by omega, by omega⟩ rfl) ?_
    refine od_go ?_
    refine od_r ?_
    refine ws_r rfl rfl rfl rfl (rd_load rfl) ?_
    refine od_go ?_
    refine od_r ?_
    refine ws_r rfl rfl rfl rfl (rd_rem (((pc[1] % 4 : UInt8).toNat : Nat) : Int) rfl rfl (by omega) (u8_rem pc[1] 4 (by omega))) ?_
    refine od_go ?_
    refine od_r ?_
    refine ws_r rfl rfl rfl rfl (rd_arith ((((1 : UInt8) + pc[1] % 4).toNat : Nat) : Int) rfl rfl rfl (add8 1 _)) ?_
    refine od_go ?_
    refine od_r ?_
    refine ws_r rfl rfl rfl rfl (rd_ixArr 2 rfl rfl Try.underlying57 Try.sizeOf5 ⟨by omega, by omega⟩ rfl) ?_
    refine od_go ?_
    refine od_r ?_
    refine ws_r rfl rfl rfl rfl (rd_load rfl) ?_
    refine od_go ?_
    refine od_r ?_
    refine ws_r rfl rfl rfl rfl (rd_conv rfl (run_conv_int ((pc[2].toNat : Nat) : Int) Try.underlying5 Try.underlying3 (wrap_i64 _ (by omega) (by have := (pc[2]).toNat_lt; omega)))) ?_
    refine od_go ?_
    refine od_r ?_
    refine ws_r rfl rfl rfl rfl (rd_rem ((pc[2].toNat % 8 : Nat) : Int) rfl rfl (by omega) (tmodN _ 8)) ?_
    refine od_go ?_
    refine od_r ?_
    refine ws_r rfl rfl rfl rfl (rd_ixArr 3 rfl rfl Try.underlying57 Try.sizeOf5 ⟨by omega, by omega⟩ rfl) ?_
    refine od_go ?_
    refine od_r ?_
    refine ws_r rfl rfl rfl rfl (rd_load rfl) ?_
    refine od_go ?_
    refine od_r ?_
    refine ws_r rfl rfl rfl rfl (rd_rem (((pc[3] % 6 : UInt8).toNat : Nat) : Int) rfl rfl (by omega) (u8_rem pc[3] 6 (by omega))) ?_
    refine od_go ?_
    refine od_r ?_
    refine ws_r rfl rfl rfl rfl (rd_arith ((((10 : UInt8) + pc[3] % 6).toNat : Nat) : Int) rfl rfl rfl (add8 10 _)) ?_
    refine od_go ?_
    refine od_r ?_
    refine ws_r rfl rfl rfl rfl (rd_build rfl) ?_
    refine od_go ?_
    refine od_b3 ?_ ?_ ?_
    ·
      refine ws_callp rfl rfl rfl rfl rfl (En.go) (fun w hp hn ho => public_ret _ w) ?_
      refine od_go ?_
      refine od_b ?_ ?_
      ·
        refine ws_alloc rfl rfl rfl ?_
        intro b12 hb12
        refine od_go ?_
        refine od_seq ?_
        refine ws_alloc rfl rfl rfl ?_
        intro b14 hb14
        refine ws_r rfl rfl rfl rfl (rd_assign rfl) ?_
        refine ws_store rfl rfl rfl rfl (by first | exact .inl (by assumption) | exact .inr (by simp)) (fun _ h _ => by first | (cases h; done) | exact List.mem_cons_of_mem _ h | exact List.mem_cons_of_mem _ (List.mem_cons_of_mem _ h) | (simp at h ⊢; simp [h])) ?_
        refine ws_r rfl rfl rfl rfl (rd_assign rfl) ?_
        refine ws_late rfl ?_
        refine ws_store rfl rfl rfl rfl (by first | exact .inl (by assumption) | exact .inr (by simp)) (fun _ h _ => by first | (cases h; done) | exact List.mem_cons_of_mem _ h | exact List.mem_cons_of_mem _ (List.mem_cons_of_mem _ h) | (simp at h ⊢; simp [h])) ?_
        refine ws_nil ?_
        exact qe_sub (hrest (b12, b14) ⟨hb12, hb14⟩) rfl
      ·
        refine ws_alloc rfl rfl rfl ?_
        intro b14 hb14
        refine od_go ?_
        refine od_seq ?_
        refine ws_alloc rfl rfl rfl ?_
        intro b12 hb12
        refine ws_r rfl rfl rfl rfl (rd_assign rfl) ?_
        refine ws_store rfl rfl rfl rfl (by first | exact .inl (by assumption) | exact .inr (by simp)) (fun _ h _ => by first | (cases h; done) | exact List.mem_cons_of_mem _ h | exact List.mem_cons_of_mem _ (List.mem_cons_of_mem _ h) | (simp at h ⊢; simp [h])) ?_
        refine ws_r rfl rfl rfl rfl (rd_assign rfl) ?_
        refine ws_late rfl ?_
        refine ws_store rfl rfl rfl rfl (by first | exact .inl (by assumption) | exact .inr (by simp)) (fun _ h _ => by first | (cases h; done) | exact List.mem_cons_of_mem _ h | exact List.mem_cons_of_mem _ (List.mem_cons_of_mem _ h) | (simp at h ⊢; simp [h])) ?_
        refine ws_nil ?_
        exact qe_sub (hrest (b12, b14) ⟨hb12, hb14⟩) rfl
    ·
      refine ws_alloc rfl rfl rfl ?_
      intro b12 hb12
      refine od_go ?_
      refine od_b ?_ ?_
      ·
        refine ws_callp rfl rfl rfl rfl rfl (En.go) (fun w hp hn ho => public_ret _ w) ?_
        refine od_go ?_
        refine od_seq ?_
        refine ws_alloc rfl rfl rfl ?_
        intro b14 hb14
        refine ws_r rfl rfl rfl rfl (rd_assign rfl) ?_
        refine ws_store rfl rfl rfl rfl (by first | exact .inl (by assumption) | exact .inr (by simp)) (fun _ h _ => by first | (cases h; done) | exact List.mem_cons_of_mem _ h | exact List.mem_cons_of_mem _ (List.mem_cons_of_mem _ h) | (simp at h ⊢; simp [h])) ?_
        refine ws_r rfl rfl rfl rfl (rd_assign rfl) ?_
        refine ws_late rfl ?_
        refine ws_store rfl rfl rfl rfl (by first | exact .inl (by assumption) | exact .inr (by simp)) (fun _ h _ => by first | (cases h; done) | exact List.mem_cons_of_mem _ h | exact List.mem_cons_of_mem _ (List.mem_cons_of_mem _ h) | (simp at h ⊢; simp [h])) ?_
        refine ws_nil ?_
        exact qe_sub (hrest (b12, b14) ⟨hb12, hb14⟩) rfl
      ·
        refine ws_alloc rfl rfl rfl ?_
        intro b14 hb14
        refine od_go ?_
        refine od_seq ?_
        refine ws_callp rfl rfl rfl rfl rfl (En.go) (fun w hp hn ho => public_ret _ w) ?_
        refine ws_r rfl rfl rfl rfl (rd_assign rfl) ?_
        refine ws_store rfl rfl rfl rfl (by first | exact .inl (by assumption) | exact .inr (by simp)) (fun _ h _ => by first | (cases h; done) | exact List.mem_cons_of_mem _ h | exact List.mem_cons_of_mem _ (List.mem_cons_of_mem _ h) | (simp at h ⊢; simp [h])) ?_
        refine ws_r rfl rfl rfl rfl (rd_assign rfl) ?_
        refine ws_late rfl ?_
        refine ws_store rfl rfl rfl rfl (by first | exact .inl (by assumption) | exact .inr (by simp)) (fun _ h _ => by first | (cases h; done) | exact List.mem_cons_of_mem _ h | exact List.mem_cons_of_mem _ (List.mem_cons_of_mem _ h) | (simp at h ⊢; simp [h])) ?_
        refine ws_nil ?_
        exact qe_sub (hrest (b12, b14) ⟨hb12, hb14⟩) rfl
    ·
      refine ws_alloc rfl rfl rfl ?_
      intro b14 hb14
      refine od_go ?_
      refine od_b ?_ ?_
      ·
        refine ws_callp rfl rfl rfl rfl rfl (En.go) (fun w hp hn ho => public_ret _ w) ?_
        refine od_go ?_
        refine od_seq ?_
        refine ws_alloc rfl rfl rfl ?_
        intro b12 hb12
        refine ws_r rfl rfl rfl rfl (rd_assign rfl) ?_
        refine ws_store rfl rfl rfl rfl (by first | exact .inl (by assumption) | exact .inr (by simp)) (fun _ h _ => by first | (cases h; done) | exact List.mem_cons_of_mem _ h | exact List.mem_cons_of_mem _ (List.mem_cons_of_mem _ h) | (simp at h ⊢; simp [h])) ?_
        refine ws_r rfl rfl rfl rfl (rd_assign rfl) ?_
        refine ws_late rfl ?_
        refine ws_store rfl rfl rfl rfl (by first | exact .inl (by assumption) | exact .inr (by simp)) (fun _ h _ => by first | (cases h; done) | exact List.mem_cons_of_mem _ h | exact List.mem_cons_of_mem _ (List.mem_cons_of_mem _ h) | (simp at h ⊢; simp [h])) ?_
        refine ws_nil ?_
        exact qe_sub (hrest (b12, b14) ⟨hb12, hb14⟩) rfl
      ·
        refine ws_alloc rfl rfl rfl ?_
        intro b12 hb12
        refine od_go ?_
        refine od_seq ?_
        refine ws_callp rfl rfl rfl rfl rfl (En.go) (fun w hp hn ho => public_ret _ w) ?_
        refine ws_r rfl rfl rfl rfl (rd_assign rfl) ?_
        refine ws_store rfl rfl rfl rfl (by first | exact .inl (by assumption) | exact .inr (by simp)) (fun _ h _ => by first | (cases h; done) | exact List.mem_cons_of_mem _ h | exact List.mem_cons_of_mem _ (List.mem_cons_of_mem _ h) | (simp at h ⊢; simp [h])) ?_
        refine ws_r rfl rfl rfl rfl (rd_assign rfl) ?_
        refine ws_late rfl ?_
        refine ws_store rfl rfl rfl rfl (by first | exact .inl (by assumption) | exact .inr (by simp)) (fun _ h _ => by first | (cases h; done) | exact List.mem_cons_of_mem _ h | exact List.mem_cons_of_mem _ (List.mem_cons_of_mem _ h) | (simp at h ⊢; simp [h])) ?_
        refine ws_nil ?_
        exact qe_sub (hrest (b12, b14) ⟨hb12, hb14⟩) rfl

end Go.Proofs.Ytheioljidangkaa
