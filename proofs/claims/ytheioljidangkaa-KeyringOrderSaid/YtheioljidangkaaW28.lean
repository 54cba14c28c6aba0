/- Walk: KeyringOrder. No conditions. -/
import Derived.Test.YtheioljidangkaaW26
import Derived.Test.YtheioljidangkaaW20
import Derived.Test.YtheioljidangkaaOpn
namespace Go.Proofs.Ytheioljidangkaa
open Go Go.RowKit Go.Sx
set_option linter.unusedSimpArgs false
set_option linter.unusedVariables false

set_option linter.constructorNameAsVariable false in
set_option maxRecDepth 100000 in
theorem slice_le {w : World} {r : Reach} {b0 : Nat} {T E : TypeId} {v : Value} {φ : Heap} {bs : List UInt8} (hv : Value.okWide Try.prog w r b0 T v) (hT : Try.prog.underlying T = some (.slice E)) (h : Src φ v 1 bs.length (bs.flatMap fun b => [u8v b])) : (bs.length : Int) ≤ 9223372036854775807 := by
  rcases h.2 with ⟨_, h0⟩ | ⟨A, c, rfl, h1⟩
  · omega
  · simp only [Value.okWide, hT, Cell.okWide, Cell.ok] at hv
    obtain ⟨h2, h3, _⟩ := hv
    have h4 : IntKind.i64.max = 9223372036854775807 := by decide
    rw [h4] at h3
    omega
instance (x : MV) : BuildsS Try.prog 22 1 [(0, mvK x)] 41 (mvC x) := BuildsS.one Try.underlying22 Try.sizeOf41 rfl rfl Try.zeroValue41 rfl (mvC_size x)
theorem mv_cells (x : MV) : (mvK x).cells.toList = mvL x := by simp only [mvL, Value.cells]
set_option maxRecDepth 100000 in
set_option maxHeartbeats 600000 in
theorem order_ret (v vb : Value) (φ : Heap) (ms : List MV) (hsrc : Src φ v 7 ms.length (ms.flatMap mvL)) (bs : List UInt8) (hbl : (bs.length : Int) ≤ 9223372036854775807) (hsrcb : Src φ vb 1 bs.length (bs.flatMap fun b => [u8v b])) (w : World) (hφ : HpOK φ w) (hnd : (φ.map Prod.fst).Nodup) : Ret Try.prog 6 [v, vb] w [] (fun u _ => u = .bool true) := by
  refine enter (n := 102) (args := [v, vb]) [] φ Try.func6 rfl rfl rfl hφ hnd ?_
  refine wc_seq ?_
  refine wc_plain [(0, .x true)] (by kernel_rfl) ?_
  refine ws_l rfl rfl rfl rfl (rd_assign rfl) ?_
  refine ws_nil ?_
  refine qe_then ?_
  refine wc_seq ?_
  refine wc_seq ?_
  refine wc_plain [(0, .x true), (1, .x true)] (by kernel_rfl) ?_
  refine ws_callp rfl rfl rfl rfl rfl (En.go) (fun w hp hn ho => known_ret w) ?_
  refine ws_l rfl rfl rfl rfl (rd_not rfl) ?_
  refine ws_nil ?_
  refine qe_then ?_
  refine wc_false rfl ?_
  refine wc_skip ?_
  refine qe_then ?_
  refine wc_seq ?_
  refine wc_plain [(0, .x true)] (by kernel_rfl) ?_
  refine ws_l rfl rfl rfl rfl (rd_assign rfl) ?_
  refine ws_nil ?_
  refine qe_then ?_
  refine wc_seq ?_
  refine wc_seq ?_
  refine wc_plain [(0, .x true)] (by kernel_rfl) ?_
  refine ws_l rfl rfl rfl rfl (rd_assign rfl) ?_
  refine ws_nil ?_
  refine qe_then ?_
  refine wc_block ?_
  refine wc_loop (fun mz ac w1 => ∃ (j : Nat) (l : List MV) (v5 : Value) (ν5 : Heap), mz = 17 - j ∧ (j ≤ ms.length ∧ j ≤ 16) ∧ (l.length = j) ∧ (Numb l) ∧ (OwnR w.heap.size 41 7 v5 ν5 l.length (l.flatMap mvL)) ∧ St 102 w [] [(0, v), (1, vb), (5, v5), (6, I j)] (ν5 ++ φ) ac w1) _ (fun ac w1 hs => ⟨0, [], .slice none 0 0, [], rfl, (by omega), (rfl), (Numb.nil), (OwnR.nil _ _ _), st_sub hs _ rfl⟩) ?_
  rintro _ ac1 wl1 ⟨j, l, v5, ν5, rfl, hj, hlj, hnum, hown, hs1⟩
  refine wc_at hs1 ?_
  refine wc_seq ?_
  refine wc_seq ?_
  refine wc_plain [(0, .x true), (1, .x true), (2, .x true), (3, .x true), (4, .x true), (5, .x true), (6, .x true), (7, .x true)] (by kernel_rfl) ?_
  refine ws_l rfl rfl rfl rfl (rd_move rfl) ?_
  refine ws_l rfl rfl rfl rfl (rd_move rfl) ?_
  refine ws_l rfl rfl rfl rfl (rd_lenS hsrc rfl Try.underlying22) ?_
  refine ws_lcmp rfl rfl rfl (rfl) (rfl) (rfl) ?_ ?_
  · intro h22
    refine ws_l rfl rfl rfl rfl (rd_move rfl) ?_
    refine ws_l rfl rfl rfl rfl (rd_move rfl) ?_
    refine ws_lcmp rfl rfl rfl (rfl) (rfl) (rfl) ?_ ?_
    · intro h25
      refine ws_l rfl rfl rfl rfl (rd_pick_t rfl rfl) ?_
      refine ws_nil ?_
      refine qe_then ?_
      refine wc_true rfl ?_
      refine wc_skip ?_
      refine qe_then ?_
      refine wc_seq ?_
      refine wc_block ?_
      refine wc_seq ?_
      refine wc_plain [(0, .x true), (1, .x true), (2, .x true), (3, .x true), (4, .x true), (5, .x true)] (by kernel_rfl) ?_
      refine ws_l rfl rfl rfl rfl (rd_move rfl) ?_
      refine ws_l rfl rfl rfl rfl (rd_move rfl) ?_
      have hjl : j < ms.length := by simp only [cmpP] at h22; omega
      obtain ⟨bg, og, cg, csg, Eg, frg, rfl, hmg, hcg⟩ := Src.opened hsrc (by omega)
      have hmig : HM bg (.cells csg Eg frg) φ := ⟨hmg⟩
      obtain ⟨x, hx⟩ := at_ex (l := ms) (j := j) (by omega)
      have atx : AtM csg (og + j * 7) x := at_mv hcg hx
      refine ws_l rfl rfl rfl rfl (rd_index (og + j * 7) rfl rfl Try.underlying22 Try.sizeOf41 ⟨by omega, by omega⟩ (by simp)) ?_
      refine ws_l rfl rfl rfl rfl (rd_load rfl) ?_
      refine ws_alloc rfl rfl rfl ?_
      intro b7 hb7
      refine ws_store rfl rfl rfl rfl (by first | exact .inl (by assumption) | exact .inr (by simp)) (fun _ h _ => by first | (cases h; done) | exact List.mem_cons_of_mem _ h | exact List.mem_cons_of_mem _ (List.mem_cons_of_mem _ h) | (simp at h ⊢; simp [h])) ?_
      refine ws_nil ?_
      refine qe_then ?_
      refine wc_seq ?_
      refine wc_plain [(0, .x true), (1, .x true), (2, .x true), (3, .x true)] (by kernel_rfl) ?_
      refine ws_l rfl rfl rfl rfl (rd_move rfl) ?_
      refine ws_l rfl rfl rfl rfl (rd_conv rfl (run_conv_int (((UInt8.ofNat j).toNat : Nat) : Int) Try.underlying3 Try.underlying5 (u8_conv (by omega)))) ?_
      refine ws_l rfl rfl rfl rfl (rd_fieldAddr rfl) ?_
      refine ws_store rfl rfl rfl rfl (by first | exact .inl (by assumption) | exact .inr (by simp)) (fun _ h _ => by first | (cases h; done) | exact List.mem_cons_of_mem _ h | exact List.mem_cons_of_mem _ (List.mem_cons_of_mem _ h) | (simp at h ⊢; simp [h])) ?_
      refine ws_nil ?_
      refine qe_then ?_
      refine wc_plain [(0, .x true), (1, .x true), (2, .x true), (3, .x true), (4, .x true)] (by kernel_rfl) ?_
      refine ws_l rfl rfl rfl rfl (rd_move rfl) ?_
      refine ws_l rfl rfl rfl rfl (rd_load rfl) ?_
      refine ws_buildSlice rfl rfl rfl rfl ?_
      intro b38 hb38
      refine ws_append rfl rfl rfl rfl rfl hown (by simp [mvC_size]) (mvC_one _) (by simp only [maxLen]; omega) (by omega) (fun _ _ _ h => by first | (cases h; done) | (simp only [List.mem_append, List.mem_cons] at h ⊢; grind) | skip) ?_
      intro vq' νq' hownq'
      refine ws_l rfl rfl rfl rfl (rd_assign rfl) ?_
      refine ws_nil ?_
      refine qe_block ?_
      refine qe_then ?_
      refine wc_plain [(0, .x true), (1, .x true), (2, .x true)] (by kernel_rfl) ?_
      refine ws_l rfl rfl rfl rfl (rd_move rfl) ?_
      refine ws_l rfl rfl rfl rfl (rd_arith (((j + 1 : Nat) : Nat) : Int) rfl rfl rfl (by rw [wrap_i64 _ (by omega) (by omega)]; omega)) ?_
      refine ws_l rfl rfl rfl rfl (rd_assign rfl) ?_
      refine ws_nil ?_
      exact qe_loop fun ac2 w2 hs2 => ⟨_, by (simp only [cmpP] at h22 h25; omega), j + 1, l ++ [{ x with id := UInt8.ofNat j }], vq', νq', rfl, (by simp only [cmpP] at h22 h25; omega), (by rw [List.length_append, hlj]; rfl), (by rw [← hlj]; exact hnum.snoc x), (by simpa [List.flatMap_append] using hownq'), st_sub hs2 _ rfl⟩
    · intro h25
      refine ws_l rfl rfl rfl rfl (rd_pick_t rfl rfl) ?_
      refine ws_nil ?_
      refine qe_then ?_
      refine wc_false rfl ?_
      refine wc_exit ?_
      refine qe_then_exit ?_
      refine qe_then_exit ?_
      refine qe_block_exit ?_
      refine qe_then ?_
      refine wc_keep [(1, _), (5, _)] rfl ?_
      refine wc_seq ?_
      refine wc_plain [(0, .x true), (1, .x true), (2, .x true), (3, .x true), (4, .x true), (5, .x true), (6, .x true), (7, .x true), (8, .x true)] (by kernel_rfl) ?_
      refine ws_l rfl rfl rfl rfl (rd_move rfl) ?_
      refine ws_call rfl rfl rfl rfl rfl (En.go) (fun w hp hn ho => build_law v5 ν5 l hown.src 16 (by omega) w (hp.mono SubH.mem) (SubH.nd hn)) (fun _ h => by cases h) (fun hh q h => by first | (cases h; done) | exact hh q h) ?_
      rintro v42 wa wb hpo hon hon2 hp1 ⟨p, m, k, es, c, ws, d, L, W, v8, νl, rfl, hph, hpn, hpf, hL, hW, hok, hlo⟩
      refine ⟨_, hph, hpn, fun b hb => .inl (hpf b hb), ?_⟩
      replace hlo := hlo.mono hon.size
      have hpf' := fun b hb => Nat.le_trans hon.size (hpf b hb)
      have hl24 : (buildF (l.take 16)).length < 8192 := by have h1 := buildF_len (l.take 16); rw [List.length_take] at h1; omega
      simp only [List.cons_append, List.append_assoc]
      refine ws_l rfl rfl rfl rfl (rd_move rfl) ?_
      refine ws_l rfl rfl rfl rfl (rd_extract rfl) ?_
      refine ws_l rfl rfl rfl rfl (rd_extract rfl) ?_
      refine ws_l rfl rfl rfl rfl (rd_extract rfl) ?_
      refine ws_l rfl rfl rfl rfl (rd_assign rfl) ?_
      refine ws_l rfl rfl rfl rfl (rd_assign rfl) ?_
      refine ws_l rfl rfl rfl rfl (rd_assign rfl) ?_
      refine ws_nil ?_
      refine qe_then ?_
      refine wc_keep [(1, _), (5, _), (8, _), (9, _)] rfl ?_
      refine wc_seq ?_
      refine wc_seq ?_
      refine wc_plain [(0, .x true)] (by kernel_rfl) ?_
      refine ws_l rfl rfl rfl rfl (rd_assign rfl) ?_
      refine ws_nil ?_
      refine qe_then ?_
      refine wc_block ?_
      refine wc_loop (fun mz ac w1 => ∃ (i : Nat) (l2 : List MV) (ν5b : Heap), mz = bs.length - i ∧ (i ≤ bs.length) ∧ (l2.Perm l) ∧ (OwnR w.heap.size 41 7 v5 ν5b l2.length (l2.flatMap mvL)) ∧ St 102 w [] [(1, vb), (5, v5), (8, ptr p), (9, v8), (11, I i)] (ringP p m k :: (ringT m k es c ws d (facts W) ++ (νl ++ (ν5b ++ φ)))) ac w1) _ (fun ac w1 hs => ⟨0, l, ν5, rfl, (by omega), (List.Perm.refl _), (hown), st_sub hs _ rfl⟩) ?_
      rintro _ ac2 wl2 ⟨i, l2, ν5b, rfl, hi, hperm, hown2, hs2⟩
      refine wc_at hs2 ?_
      refine wc_seq ?_
      refine wc_seq ?_
      refine wc_plain [(0, .x true), (1, .x true), (2, .x true), (3, .x true), (4, .x true), (5, .x true), (6, .x true), (7, .x true), (8, .x true)] (by kernel_rfl) ?_
      refine ws_l rfl rfl rfl rfl (rd_move rfl) ?_
      refine ws_l rfl rfl rfl rfl (rd_move rfl) ?_
      refine ws_l rfl rfl rfl rfl (rd_lenS hsrcb rfl Try.underlying65) ?_
      refine ws_lcmp rfl rfl rfl (rfl) (rfl) (rfl) ?_ ?_
      · intro h49
        refine ws_l rfl rfl rfl rfl (rd_move rfl) ?_
        refine ws_l rfl rfl rfl rfl (rd_move rfl) ?_
        refine ws_l rfl rfl rfl rfl (rd_lenO hown2 rfl Try.underlying22) ?_
        refine ws_lcmp rfl rfl rfl (rfl) (rfl) (rfl) ?_ ?_
        · intro h53
          refine ws_l rfl rfl rfl rfl (rd_pick_t rfl rfl) ?_
          refine ws_nil ?_
          refine qe_then ?_
          refine wc_true rfl ?_
          refine wc_skip ?_
          refine qe_then ?_
          refine wc_seq ?_
          refine wc_block ?_
          refine wc_seq ?_
          refine wc_drawn mixedT _ (fun _ h => h) [(0, .r), (1, .r), (2, .r), (3, .r), (4, .r), (5, .r), (6, .r), (7, .r), (8, .r), (9, .r), (10, .r), (11, .r), (12, .r), (13, .x true)] (by kernel_rfl) ?_
          have hl1 : 1 < l2.length := by simp only [cmpP] at h53; omega
          refine ws_r rfl rfl rfl rfl (rd_move rfl) ?_
          refine ws_r rfl rfl rfl rfl (rd_move rfl) ?_
          refine ws_r rfl rfl rfl rfl (rd_lenO hown2 rfl Try.underlying22) ?_
          refine ws_r rfl rfl rfl rfl (rd_rem (((i % l2.length) : Nat) : Int) rfl rfl (by omega) (tmodN _ _)) ?_
          refine ws_r rfl rfl rfl rfl (rd_move rfl) ?_
          refine ws_r rfl rfl rfl rfl (rd_move rfl) ?_
          obtain ⟨bb, ob, cb, csb, Eb, frb, rfl, hmb, hcb⟩ := Src.opened hsrcb (by omega)
          have hmib : HM bb (.cells csb Eb frb) φ := ⟨hmb⟩
          obtain ⟨z, hz⟩ := at_ex (l := bs) (j := i) (by simp only [cmpP] at h49; omega)
          have atz : GetAt csb (ob + i * 1) (u8v z) := ⟨by rw [Nat.mul_one]; exact hcb i _ (by have h := flat_at (enc := fun b : UInt8 => [u8v b]) (k := 1) (fun _ => rfl) bs i 0 z hz (by omega); rw [Nat.mul_one, Nat.add_zero] at h; exact h)⟩
          refine ws_r rfl rfl rfl rfl (rd_index (ob + i * 1) rfl rfl Try.underlying65 Try.sizeOf5 ⟨by omega, by omega⟩ (by simp)) ?_
          refine ws_r rfl rfl rfl rfl (rd_load rfl) ?_
          refine ws_r rfl rfl rfl rfl (rd_conv rfl (run_conv_int ((z.toNat : Nat) : Int) Try.underlying5 Try.underlying3 (wrap_i64 _ (by omega) (by have := z.toNat_lt; omega)))) ?_
          refine ws_r rfl rfl rfl rfl (rd_move rfl) ?_
          refine ws_r rfl rfl rfl rfl (rd_lenO hown2 rfl Try.underlying22) ?_
          refine ws_r rfl rfl rfl rfl (rd_rem (((z.toNat % l2.length) : Nat) : Int) rfl rfl (by omega) (tmodN _ _)) ?_
          refine ws_r rfl rfl rfl rfl (rd_assign rfl) ?_
          refine ws_late rfl ?_
          refine ws_l rfl rfl rfl rfl (rd_assign rfl) ?_
          refine ws_nil ?_
          refine qe_then ?_
          refine wc_drawnO mixedT [] (fun _ h => by cases h) (.r 0 (.r 1 (.r 2 (.r 3 (.r 4 (.r 5 (.r 6 (.r 8 (.r 9 (.r 10 (.b 7 11 (.seq [(11, .x false), (12, .r), (13, .x false), (14, .x true), (15, .x true)]) (.seq [(7, .x false), (12, .r), (13, .x false), (14, .x true), (15, .x true)])))))))))))) (by kernel_rfl) ?_
          refine od_r ?_
          have hA : (i % l2.length) < l2.length := Nat.mod_lt _ (by omega)
          have hB : (z.toNat % l2.length) < l2.length := Nat.mod_lt _ (by omega)
          obtain ⟨g5, cap5, cur5, hv5, hν5, hb5, hcap5, hcur5⟩ := OwnR.opened hown2 (by omega)
          have hown3 := hown2
          subst hν5
          rw [hv5] at hown3
          obtain ⟨x, hx⟩ := at_ex (l := l2) (j := (i % l2.length)) hA
          obtain ⟨y, hy⟩ := at_ex (l := l2) (j := (z.toNat % l2.length)) hB
          have hc5 : ∀ i v, (l2.flatMap mvL)[i]? = some v → cur5[0 + i]? = some v := fun i v hv => by rw [Nat.zero_add, hcur5 i (by have := (List.getElem?_eq_some_iff.1 hv).1; rw [flat_len mvL_len] at this; exact this), hv]
          have atx : AtM cur5 ((i % l2.length) * 7) x := by have h := at_mv (o := 0) hc5 hx; rwa [Nat.zero_add] at h
          have aty : AtM cur5 ((z.toNat % l2.length) * 7) y := by have h := at_mv (o := 0) hc5 hy; rwa [Nat.zero_add] at h
          refine ws_r rfl rfl rfl rfl (rd_move (congrArg some hv5)) ?_
          refine od_go ?_
          refine od_r ?_
          refine ws_r rfl rfl rfl rfl (rd_move rfl) ?_
          refine od_go ?_
          refine od_r ?_
          refine ws_r rfl rfl rfl rfl (rd_move (congrArg some hv5)) ?_
          refine od_go ?_
          refine od_r ?_
          refine ws_r rfl rfl rfl rfl (rd_move rfl) ?_
          refine od_go ?_
          refine od_r ?_
          refine ws_r rfl rfl rfl rfl (rd_move (congrArg some hv5)) ?_
          refine od_go ?_
          refine od_r ?_
          refine ws_r rfl rfl rfl rfl (rd_move rfl) ?_
          refine od_go ?_
          refine od_r ?_
          refine ws_r rfl rfl rfl rfl (rd_ix (j := (z.toNat % l2.length)) rfl rfl Try.underlying22 Try.sizeOf41 (by omega)) ?_
          refine od_go ?_
          refine od_r ?_
          refine ws_r rfl rfl rfl rfl (rd_move (congrArg some hv5)) ?_
          refine od_go ?_
          refine od_r ?_
          refine ws_r rfl rfl rfl rfl (rd_move rfl) ?_
          refine od_go ?_
          refine od_r ?_
          refine ws_r rfl rfl rfl rfl (rd_ix (j := (i % l2.length)) rfl rfl Try.underlying22 Try.sizeOf41 (by omega)) ?_
          refine od_go ?_
          refine od_b ?_ ?_
          ·
            refine ws_l rfl rfl rfl rfl (rd_load rfl) ?_
            refine od_go ?_
            refine od_seq ?_
            refine ws_l rfl rfl rfl rfl (rd_load rfl) ?_
            refine ws_r rfl rfl rfl rfl (rd_ix (j := (i % l2.length)) rfl rfl Try.underlying22 Try.sizeOf41 (by omega)) ?_
            obtain ⟨cur6, hwr6, hown6⟩ := own_set mvL_len Try.sizeOf41 (Eq.refl l2.length) hown3 hA y (v := mvK y) (mv_cells y) (mvL_one y)
            refine ws_store (hw := hwr6) rfl rfl rfl rfl (.inl hb5) (fun q h _ => by first | (cases h; done) | (simp [h])) ?_
            refine ws_late rfl ?_
            refine ws_l rfl rfl rfl rfl (rd_ix (j := (z.toNat % l2.length)) rfl rfl Try.underlying22 Try.sizeOf41 (by omega)) ?_
            obtain ⟨cur7, hwr7, hown7⟩ := own_set mvL_len Try.sizeOf41 (by rw [List.length_set]) hown6 hB x (v := mvK x) (mv_cells x) (mvL_one x)
            refine ws_store (hw := hwr7) rfl rfl rfl rfl (.inl hb5) (fun q h _ => by first | (cases h; done) | (simp [h])) ?_
            refine ws_nil ?_
            refine qe_block ?_
            refine qe_then ?_
            refine wc_plain [(0, .x true), (1, .x true), (2, .x true)] (by kernel_rfl) ?_
            refine ws_l rfl rfl rfl rfl (rd_move rfl) ?_
            refine ws_l rfl rfl rfl rfl (rd_arith (((i + 1 : Nat) : Nat) : Int) rfl rfl rfl (by rw [wrap_i64 _ (by omega) (by omega)]; omega)) ?_
            refine ws_l rfl rfl rfl rfl (rd_assign rfl) ?_
            refine ws_nil ?_
            exact qe_loop fun ac2 w2 hs2 => ⟨_, by (simp only [cmpP] at h49; omega), i + 1, (l2.set (i % l2.length) y).set (z.toNat % l2.length) x, [(g5, .cells cur7 41 (0, 0))], rfl, (by simp only [cmpP] at h49; omega), ((swap_perm hx hy).trans hperm), (by rw [hv5, List.length_set, List.length_set]; exact hown7), st_sub hs2 _ rfl⟩
          ·
            refine ws_l rfl rfl rfl rfl (rd_load rfl) ?_
            refine od_go ?_
            refine od_seq ?_
            refine ws_l rfl rfl rfl rfl (rd_load rfl) ?_
            refine ws_r rfl rfl rfl rfl (rd_ix (j := (i % l2.length)) rfl rfl Try.underlying22 Try.sizeOf41 (by omega)) ?_
            obtain ⟨cur6, hwr6, hown6⟩ := own_set mvL_len Try.sizeOf41 (Eq.refl l2.length) hown3 hA y (v := mvK y) (mv_cells y) (mvL_one y)
            refine ws_store (hw := hwr6) rfl rfl rfl rfl (.inl hb5) (fun q h _ => by first | (cases h; done) | (simp [h])) ?_
            refine ws_late rfl ?_
            refine ws_l rfl rfl rfl rfl (rd_ix (j := (z.toNat % l2.length)) rfl rfl Try.underlying22 Try.sizeOf41 (by omega)) ?_
            obtain ⟨cur7, hwr7, hown7⟩ := own_set mvL_len Try.sizeOf41 (by rw [List.length_set]) hown6 hB x (v := mvK x) (mv_cells x) (mvL_one x)
            refine ws_store (hw := hwr7) rfl rfl rfl rfl (.inl hb5) (fun q h _ => by first | (cases h; done) | (simp [h])) ?_
            refine ws_nil ?_
            refine qe_block ?_
            refine qe_then ?_
            refine wc_plain [(0, .x true), (1, .x true), (2, .x true)] (by kernel_rfl) ?_
            refine ws_l rfl rfl rfl rfl (rd_move rfl) ?_
            refine ws_l rfl rfl rfl rfl (rd_arith (((i + 1 : Nat) : Nat) : Int) rfl rfl rfl (by rw [wrap_i64 _ (by omega) (by omega)]; omega)) ?_
            refine ws_l rfl rfl rfl rfl (rd_assign rfl) ?_
            refine ws_nil ?_
            exact qe_loop fun ac2 w2 hs2 => ⟨_, by (simp only [cmpP] at h49; omega), i + 1, (l2.set (i % l2.length) y).set (z.toNat % l2.length) x, [(g5, .cells cur7 41 (0, 0))], rfl, (by simp only [cmpP] at h49; omega), ((swap_perm hx hy).trans hperm), (by rw [hv5, List.length_set, List.length_set]; exact hown7), st_sub hs2 _ rfl⟩
        · intro h53
          refine ws_l rfl rfl rfl rfl (rd_pick_t rfl rfl) ?_
          refine ws_nil ?_
          refine qe_then ?_
          refine wc_false rfl ?_
          refine wc_exit ?_
          refine qe_then_exit ?_
          refine qe_then_exit ?_
          refine qe_block_exit ?_
          refine qe_then ?_
          refine wc_keep [(5, _), (8, _), (9, _)] rfl ?_
          refine wc_seq ?_
          refine wc_plain [(0, .x true), (1, .x true), (2, .x true), (3, .x true), (4, .x true), (5, .x true), (6, .x true), (7, .x true), (8, .x true)] (by kernel_rfl) ?_
          refine ws_l rfl rfl rfl rfl (rd_move rfl) ?_
          refine ws_call rfl rfl rfl rfl rfl (En.go) (fun w hp hn ho => build_law v5 ν5b l2 hown2.src 16 (by omega) w (hp.mono SubH.mem) (SubH.nd hn)) (fun _ h => by cases h) (fun hh q h => by first | (cases h; done) | exact hh q h) ?_
          rintro v85 wa wb hpo hon hon2 hp1 ⟨p2, m2, k2, es2, c2, ws2, d2, L2, W2, v82, νl2, rfl, hph2, hpn2, hpf2, hL2, hW2, hok2, hlo2⟩
          refine ⟨_, hph2, hpn2, fun b hb => .inl (hpf2 b hb), ?_⟩
          replace hlo2 := hlo2.mono hon.size
          have hpf2' := fun b hb => Nat.le_trans hon.size (hpf2 b hb)
          have hl242 : (buildF (l2.take 16)).length < 8192 := by have h1 := buildF_len (l2.take 16); rw [List.length_take] at h1; omega
          simp only [List.cons_append, List.append_assoc]
          refine ws_l rfl rfl rfl rfl (rd_move rfl) ?_
          refine ws_l rfl rfl rfl rfl (rd_extract rfl) ?_
          refine ws_l rfl rfl rfl rfl (rd_extract rfl) ?_
          refine ws_l rfl rfl rfl rfl (rd_extract rfl) ?_
          refine ws_l rfl rfl rfl rfl (rd_assign rfl) ?_
          refine ws_l rfl rfl rfl rfl (rd_assign rfl) ?_
          refine ws_l rfl rfl rfl rfl (rd_assign rfl) ?_
          refine ws_nil ?_
          refine qe_then ?_
          refine wc_keep [(8, _), (9, _), (14, _)] rfl ?_
          refine wc_seq ?_
          refine wc_plain [(0, .x true), (1, .x true), (2, .x true), (3, .x true), (4, .x true), (5, .x true), (6, .x true), (7, .x true), (8, .x true), (9, .x true), (10, .x true), (11, .x true), (12, .x true), (13, .x true)] (by kernel_rfl) ?_
          have hl16 : l.length ≤ 16 := by omega
          have hbp : (buildF (l2.take 16)).Perm (buildF (l.take 16)) := by rw [List.take_of_length_le hl16, List.take_of_length_le (by rw [hperm.length_eq]; exact hl16)]; exact build_perm (hnum.nd hl16) hperm
          refine ws_l rfl rfl rfl rfl (rd_move rfl) ?_
          refine ws_l rfl rfl rfl rfl (rd_move rfl) ?_
          refine ws_callp rfl rfl rfl rfl rfl (En.go) (fun w hp hn ho => by have h := equal_ret p m k p2 m2 k2 es es2 c c2 L L2 W W2 (buildF (l.take 16)) (buildF (l2.take 16)) hL hL2 hok hok2 w (hp.mono SubH.mem) (SubH.nd hn); rwa [decide_eq_true (sameF_perm hbp.symm)] at h) ?_
          refine ws_l rfl rfl rfl rfl (rd_move rfl) ?_
          refine ws_l rfl rfl rfl rfl (rd_move rfl) ?_
          refine ws_l rfl rfl rfl rfl (rd_move rfl) ?_
          refine ws_callp rfl rfl rfl rfl rfl (En.go) (fun w hp hn ho => by have h := equal_ret p2 m2 k2 p m k es2 es c2 c L2 L W2 W (buildF (l2.take 16)) (buildF (l.take 16)) hL2 hL hok2 hok w (hp.mono SubH.mem) (SubH.nd hn); rwa [decide_eq_true (sameF_perm hbp)] at h) ?_
          refine ws_l rfl rfl rfl rfl (rd_pick_t rfl rfl) ?_
          refine ws_l rfl rfl rfl rfl (rd_move rfl) ?_
          refine ws_l rfl rfl rfl rfl (rd_move rfl) ?_
          refine ws_l rfl rfl rfl rfl (rd_move rfl) ?_
          refine ws_callp rfl rfl rfl rfl rfl (En.go) (fun w hp hn ho => chains_law p2 m2 k2 es2 ws2 c2 d2 L2 W2 (buildF (l2.take 16)) hL2 hW2 hok2 hl242 v8 νl (buildF (l.take 16)) hlo.src hl24 hok.ok (fun a => chain_congr (fun x => hbp.mem_iff) (idU_nd hok2.nd) a) w (hp.mono SubH.mem) (SubH.nd hn)) ?_
          refine ws_l rfl rfl rfl rfl (rd_pick_t rfl rfl) ?_
          refine ws_l rfl rfl rfl rfl (rd_assign rfl) ?_
          refine ws_nil ?_
          refine qe_then ?_
          refine wc_keep [(4, _)] rfl ?_
          refine wc_ret ?_
          refine qe_body _ (.inl rfl) (res1 rfl (RV.tmp rfl)) ?_
          exact ret_end fun w hp hn ho => rfl
      · intro h49
        refine ws_l rfl rfl rfl rfl (rd_move rfl) ?_
        refine ws_xskip rfl rfl rfl rfl ?_
        refine ws_xskip rfl rfl rfl rfl ?_
        refine ws_xskip rfl rfl rfl rfl ?_
        refine ws_l rfl rfl rfl rfl (rd_pick_f rfl rfl) ?_
        refine ws_nil ?_
        refine qe_then ?_
        refine wc_false rfl ?_
        refine wc_exit ?_
        refine qe_then_exit ?_
        refine qe_then_exit ?_
        refine qe_block_exit ?_
        refine qe_then ?_
        refine wc_keep [(5, _), (8, _), (9, _)] rfl ?_
        refine wc_seq ?_
        refine wc_plain [(0, .x true), (1, .x true), (2, .x true), (3, .x true), (4, .x true), (5, .x true), (6, .x true), (7, .x true), (8, .x true)] (by kernel_rfl) ?_
        refine ws_l rfl rfl rfl rfl (rd_move rfl) ?_
        refine ws_call rfl rfl rfl rfl rfl (En.go) (fun w hp hn ho => build_law v5 ν5b l2 hown2.src 16 (by omega) w (hp.mono SubH.mem) (SubH.nd hn)) (fun _ h => by cases h) (fun hh q h => by first | (cases h; done) | exact hh q h) ?_
        rintro v85 wa wb hpo hon hon2 hp1 ⟨p2, m2, k2, es2, c2, ws2, d2, L2, W2, v82, νl2, rfl, hph2, hpn2, hpf2, hL2, hW2, hok2, hlo2⟩
        refine ⟨_, hph2, hpn2, fun b hb => .inl (hpf2 b hb), ?_⟩
        replace hlo2 := hlo2.mono hon.size
        have hpf2' := fun b hb => Nat.le_trans hon.size (hpf2 b hb)
        have hl242 : (buildF (l2.take 16)).length < 8192 := by have h1 := buildF_len (l2.take 16); rw [List.length_take] at h1; omega
        simp only [List.cons_append, List.append_assoc]
        refine ws_l rfl rfl rfl rfl (rd_move rfl) ?_
        refine ws_l rfl rfl rfl rfl (rd_extract rfl) ?_
        refine ws_l rfl rfl rfl rfl (rd_extract rfl) ?_
        refine ws_l rfl rfl rfl rfl (rd_extract rfl) ?_
        refine ws_l rfl rfl rfl rfl (rd_assign rfl) ?_
        refine ws_l rfl rfl rfl rfl (rd_assign rfl) ?_
        refine ws_l rfl rfl rfl rfl (rd_assign rfl) ?_
        refine ws_nil ?_
        refine qe_then ?_
        refine wc_keep [(8, _), (9, _), (14, _)] rfl ?_
        refine wc_seq ?_
        refine wc_plain [(0, .x true), (1, .x true), (2, .x true), (3, .x true), (4, .x true), (5, .x true), (6, .x true), (7, .x true), (8, .x true), (9, .x true), (10, .x true), (11, .x true), (12, .x true), (13, .x true)] (by kernel_rfl) ?_
        have hl16 : l.length ≤ 16 := by omega
        have hbp : (buildF (l2.take 16)).Perm (buildF (l.take 16)) := by rw [List.take_of_length_le hl16, List.take_of_length_le (by rw [hperm.length_eq]; exact hl16)]; exact build_perm (hnum.nd hl16) hperm
        refine ws_l rfl rfl rfl rfl (rd_move rfl) ?_
        refine ws_l rfl rfl rfl rfl (rd_move rfl) ?_
        refine ws_callp rfl rfl rfl rfl rfl (En.go) (fun w hp hn ho => by have h := equal_ret p m k p2 m2 k2 es es2 c c2 L L2 W W2 (buildF (l.take 16)) (buildF (l2.take 16)) hL hL2 hok hok2 w (hp.mono SubH.mem) (SubH.nd hn); rwa [decide_eq_true (sameF_perm hbp.symm)] at h) ?_
        refine ws_l rfl rfl rfl rfl (rd_move rfl) ?_
        refine ws_l rfl rfl rfl rfl (rd_move rfl) ?_
        refine ws_l rfl rfl rfl rfl (rd_move rfl) ?_
        refine ws_callp rfl rfl rfl rfl rfl (En.go) (fun w hp hn ho => by have h := equal_ret p2 m2 k2 p m k es2 es c2 c L2 L W2 W (buildF (l2.take 16)) (buildF (l.take 16)) hL2 hL hok2 hok w (hp.mono SubH.mem) (SubH.nd hn); rwa [decide_eq_true (sameF_perm hbp)] at h) ?_
        refine ws_l rfl rfl rfl rfl (rd_pick_t rfl rfl) ?_
        refine ws_l rfl rfl rfl rfl (rd_move rfl) ?_
        refine ws_l rfl rfl rfl rfl (rd_move rfl) ?_
        refine ws_l rfl rfl rfl rfl (rd_move rfl) ?_
        refine ws_callp rfl rfl rfl rfl rfl (En.go) (fun w hp hn ho => chains_law p2 m2 k2 es2 ws2 c2 d2 L2 W2 (buildF (l2.take 16)) hL2 hW2 hok2 hl242 v8 νl (buildF (l.take 16)) hlo.src hl24 hok.ok (fun a => chain_congr (fun x => hbp.mem_iff) (idU_nd hok2.nd) a) w (hp.mono SubH.mem) (SubH.nd hn)) ?_
        refine ws_l rfl rfl rfl rfl (rd_pick_t rfl rfl) ?_
        refine ws_l rfl rfl rfl rfl (rd_assign rfl) ?_
        refine ws_nil ?_
        refine qe_then ?_
        refine wc_keep [(4, _)] rfl ?_
        refine wc_ret ?_
        refine qe_body _ (.inl rfl) (res1 rfl (RV.tmp rfl)) ?_
        exact ret_end fun w hp hn ho => rfl
  · intro h22
    refine ws_l rfl rfl rfl rfl (rd_move rfl) ?_
    refine ws_xskip rfl rfl rfl rfl ?_
    refine ws_xskip rfl rfl rfl rfl ?_
    refine ws_l rfl rfl rfl rfl (rd_pick_f rfl rfl) ?_
    refine ws_nil ?_
    refine qe_then ?_
    refine wc_false rfl ?_
    refine wc_exit ?_
    refine qe_then_exit ?_
    refine qe_then_exit ?_
    refine qe_block_exit ?_
    refine qe_then ?_
    refine wc_keep [(1, _), (5, _)] rfl ?_
    refine wc_seq ?_
    refine wc_plain [(0, .x true), (1, .x true), (2, .x true), (3, .x true), (4, .x true), (5, .x true), (6, .x true), (7, .x true), (8, .x true)] (by kernel_rfl) ?_
    refine ws_l rfl rfl rfl rfl (rd_move rfl) ?_
    refine ws_call rfl rfl rfl rfl rfl (En.go) (fun w hp hn ho => build_law v5 ν5 l hown.src 16 (by omega) w (hp.mono SubH.mem) (SubH.nd hn)) (fun _ h => by cases h) (fun hh q h => by first | (cases h; done) | exact hh q h) ?_
    rintro v42 wa wb hpo hon hon2 hp1 ⟨p, m, k, es, c, ws, d, L, W, v8, νl, rfl, hph, hpn, hpf, hL, hW, hok, hlo⟩
    refine ⟨_, hph, hpn, fun b hb => .inl (hpf b hb), ?_⟩
    replace hlo := hlo.mono hon.size
    have hpf' := fun b hb => Nat.le_trans hon.size (hpf b hb)
    have hl24 : (buildF (l.take 16)).length < 8192 := by have h1 := buildF_len (l.take 16); rw [List.length_take] at h1; omega
    simp only [List.cons_append, List.append_assoc]
    refine ws_l rfl rfl rfl rfl (rd_move rfl) ?_
    refine ws_l rfl rfl rfl rfl (rd_extract rfl) ?_
    refine ws_l rfl rfl rfl rfl (rd_extract rfl) ?_
    refine ws_l rfl rfl rfl rfl (rd_extract rfl) ?_
    refine ws_l rfl rfl rfl rfl (rd_assign rfl) ?_
    refine ws_l rfl rfl rfl rfl (rd_assign rfl) ?_
    refine ws_l rfl rfl rfl rfl (rd_assign rfl) ?_
    refine ws_nil ?_
    refine qe_then ?_
    refine wc_keep [(1, _), (5, _), (8, _), (9, _)] rfl ?_
    refine wc_seq ?_
    refine wc_seq ?_
    refine wc_plain [(0, .x true)] (by kernel_rfl) ?_
    refine ws_l rfl rfl rfl rfl (rd_assign rfl) ?_
    refine ws_nil ?_
    refine qe_then ?_
    refine wc_block ?_
    refine wc_loop (fun mz ac w1 => ∃ (i : Nat) (l2 : List MV) (ν5b : Heap), mz = bs.length - i ∧ (i ≤ bs.length) ∧ (l2.Perm l) ∧ (OwnR w.heap.size 41 7 v5 ν5b l2.length (l2.flatMap mvL)) ∧ St 102 w [] [(1, vb), (5, v5), (8, ptr p), (9, v8), (11, I i)] (ringP p m k :: (ringT m k es c ws d (facts W) ++ (νl ++ (ν5b ++ φ)))) ac w1) _ (fun ac w1 hs => ⟨0, l, ν5, rfl, (by omega), (List.Perm.refl _), (hown), st_sub hs _ rfl⟩) ?_
    rintro _ ac3 wl3 ⟨i, l2, ν5b, rfl, hi, hperm, hown2, hs3⟩
    refine wc_at hs3 ?_
    refine wc_seq ?_
    refine wc_seq ?_
    refine wc_plain [(0, .x true), (1, .x true), (2, .x true), (3, .x true), (4, .x true), (5, .x true), (6, .x true), (7, .x true), (8, .x true)] (by kernel_rfl) ?_
    refine ws_l rfl rfl rfl rfl (rd_move rfl) ?_
    refine ws_l rfl rfl rfl rfl (rd_move rfl) ?_
    refine ws_l rfl rfl rfl rfl (rd_lenS hsrcb rfl Try.underlying65) ?_
    refine ws_lcmp rfl rfl rfl (rfl) (rfl) (rfl) ?_ ?_
    · intro h49
      refine ws_l rfl rfl rfl rfl (rd_move rfl) ?_
      refine ws_l rfl rfl rfl rfl (rd_move rfl) ?_
      refine ws_l rfl rfl rfl rfl (rd_lenO hown2 rfl Try.underlying22) ?_
      refine ws_lcmp rfl rfl rfl (rfl) (rfl) (rfl) ?_ ?_
      · intro h53
        refine ws_l rfl rfl rfl rfl (rd_pick_t rfl rfl) ?_
        refine ws_nil ?_
        refine qe_then ?_
        refine wc_true rfl ?_
        refine wc_skip ?_
        refine qe_then ?_
        refine wc_seq ?_
        refine wc_block ?_
        refine wc_seq ?_
        refine wc_drawn mixedT _ (fun _ h => h) [(0, .r), (1, .r), (2, .r), (3, .r), (4, .r), (5, .r), (6, .r), (7, .r), (8, .r), (9, .r), (10, .r), (11, .r), (12, .r), (13, .x true)] (by kernel_rfl) ?_
        have hl1 : 1 < l2.length := by simp only [cmpP] at h53; omega
        refine ws_r rfl rfl rfl rfl (rd_move rfl) ?_
        refine ws_r rfl rfl rfl rfl (rd_move rfl) ?_
        refine ws_r rfl rfl rfl rfl (rd_lenO hown2 rfl Try.underlying22) ?_
        refine ws_r rfl rfl rfl rfl (rd_rem (((i % l2.length) : Nat) : Int) rfl rfl (by omega) (tmodN _ _)) ?_
        refine ws_r rfl rfl rfl rfl (rd_move rfl) ?_
        refine ws_r rfl rfl rfl rfl (rd_move rfl) ?_
        obtain ⟨bb, ob, cb, csb, Eb, frb, rfl, hmb, hcb⟩ := Src.opened hsrcb (by omega)
        have hmib : HM bb (.cells csb Eb frb) φ := ⟨hmb⟩
        obtain ⟨z, hz⟩ := at_ex (l := bs) (j := i) (by simp only [cmpP] at h49; omega)
        have atz : GetAt csb (ob + i * 1) (u8v z) := ⟨by rw [Nat.mul_one]; exact hcb i _ (by have h := flat_at (enc := fun b : UInt8 => [u8v b]) (k := 1) (fun _ => rfl) bs i 0 z hz (by omega); rw [Nat.mul_one, Nat.add_zero] at h; exact h)⟩
        refine ws_r rfl rfl rfl rfl (rd_index (ob + i * 1) rfl rfl Try.underlying65 Try.sizeOf5 ⟨by omega, by omega⟩ (by simp)) ?_
        refine ws_r rfl rfl rfl rfl (rd_load rfl) ?_
        refine ws_r rfl rfl rfl rfl (rd_conv rfl (run_conv_int ((z.toNat : Nat) : Int) Try.underlying5 Try.underlying3 (wrap_i64 _ (by omega) (by have := z.toNat_lt; omega)))) ?_
        refine ws_r rfl rfl rfl rfl (rd_move rfl) ?_
        refine ws_r rfl rfl rfl rfl (rd_lenO hown2 rfl Try.underlying22) ?_
        refine ws_r rfl rfl rfl rfl (rd_rem (((z.toNat % l2.length) : Nat) : Int) rfl rfl (by omega) (tmodN _ _)) ?_
        refine ws_r rfl rfl rfl rfl (rd_assign rfl) ?_
        refine ws_late rfl ?_
        refine ws_l rfl rfl rfl rfl (rd_assign rfl) ?_
        refine ws_nil ?_
        refine qe_then ?_
        refine wc_drawnO mixedT [] (fun _ h => by cases h) (.r 0 (.r 1 (.r 2 (.r 3 (.r 4 (.r 5 (.r 6 (.r 8 (.r 9 (.r 10 (.b 7 11 (.seq [(11, .x false), (12, .r), (13, .x false), (14, .x true), (15, .x true)]) (.seq [(7, .x false), (12, .r), (13, .x false), (14, .x true), (15, .x true)])))))))))))) (by kernel_rfl) ?_
        refine od_r ?_
        have hA : (i % l2.length) < l2.length := Nat.mod_lt _ (by omega)
        have hB : (z.toNat % l2.length) < l2.length := Nat.mod_lt _ (by omega)
        obtain ⟨g5, cap5, cur5, hv5, hν5, hb5, hcap5, hcur5⟩ := OwnR.opened hown2 (by omega)
        have hown3 := hown2
        subst hν5
        rw [hv5] at hown3
        obtain ⟨x, hx⟩ := at_ex (l := l2) (j := (i % l2.length)) hA
        obtain ⟨y, hy⟩ := at_ex (l := l2) (j := (z.toNat % l2.length)) hB
        have hc5 : ∀ i v, (l2.flatMap mvL)[i]? = some v → cur5[0 + i]? = some v := fun i v hv => by rw [Nat.zero_add, hcur5 i (by have := (List.getElem?_eq_some_iff.1 hv).1; rw [flat_len mvL_len] at this; exact this), hv]
        have atx : AtM cur5 ((i % l2.length) * 7) x := by have h := at_mv (o := 0) hc5 hx; rwa [Nat.zero_add] at h
        have aty : AtM cur5 ((z.toNat % l2.length) * 7) y := by have h := at_mv (o := 0) hc5 hy; rwa [Nat.zero_add] at h
        refine ws_r rfl rfl rfl rfl (rd_move (congrArg some hv5)) ?_
        refine od_go ?_
        refine od_r ?_
        refine ws_r rfl rfl rfl rfl (rd_move rfl) ?_
        refine od_go ?_
        refine od_r ?_
        refine ws_r rfl rfl rfl rfl (rd_move (congrArg some hv5)) ?_
        refine od_go ?_
        refine od_r ?_
        refine ws_r rfl rfl rfl rfl (rd_move rfl) ?_
        refine od_go ?_
        refine od_r ?_
        refine ws_r rfl rfl rfl rfl (rd_move (congrArg some hv5)) ?_
        refine od_go ?_
        refine od_r ?_
        refine ws_r rfl rfl rfl rfl (rd_move rfl) ?_
        refine od_go ?_
        refine od_r ?_
        refine ws_r rfl rfl rfl rfl (rd_ix (j := (z.toNat % l2.length)) rfl rfl Try.underlying22 Try.sizeOf41 (by omega)) ?_
        refine od_go ?_
        refine od_r ?_
        refine ws_r rfl rfl rfl rfl (rd_move (congrArg some hv5)) ?_
        refine od_go ?_
        refine od_r ?_
        refine ws_r rfl rfl rfl rfl (rd_move rfl) ?_
        refine od_go ?_
        refine od_r ?_
        refine ws_r rfl rfl rfl rfl (rd_ix (j := (i % l2.length)) rfl rfl Try.underlying22 Try.sizeOf41 (by omega)) ?_
        refine od_go ?_
        refine od_b ?_ ?_
        ·
          refine ws_l rfl rfl rfl rfl (rd_load rfl) ?_
          refine od_go ?_
          refine od_seq ?_
          refine ws_l rfl rfl rfl rfl (rd_load rfl) ?_
          refine ws_r rfl rfl rfl rfl (rd_ix (j := (i % l2.length)) rfl rfl Try.underlying22 Try.sizeOf41 (by omega)) ?_
          obtain ⟨cur6, hwr6, hown6⟩ := own_set mvL_len Try.sizeOf41 (Eq.refl l2.length) hown3 hA y (v := mvK y) (mv_cells y) (mvL_one y)
          refine ws_store (hw := hwr6) rfl rfl rfl rfl (.inl hb5) (fun q h _ => by first | (cases h; done) | (simp [h])) ?_
          refine ws_late rfl ?_
          refine ws_l rfl rfl rfl rfl (rd_ix (j := (z.toNat % l2.length)) rfl rfl Try.underlying22 Try.sizeOf41 (by omega)) ?_
          obtain ⟨cur7, hwr7, hown7⟩ := own_set mvL_len Try.sizeOf41 (by rw [List.length_set]) hown6 hB x (v := mvK x) (mv_cells x) (mvL_one x)
          refine ws_store (hw := hwr7) rfl rfl rfl rfl (.inl hb5) (fun q h _ => by first | (cases h; done) | (simp [h])) ?_
          refine ws_nil ?_
          refine qe_block ?_
          refine qe_then ?_
          refine wc_plain [(0, .x true), (1, .x true), (2, .x true)] (by kernel_rfl) ?_
          refine ws_l rfl rfl rfl rfl (rd_move rfl) ?_
          refine ws_l rfl rfl rfl rfl (rd_arith (((i + 1 : Nat) : Nat) : Int) rfl rfl rfl (by rw [wrap_i64 _ (by omega) (by omega)]; omega)) ?_
          refine ws_l rfl rfl rfl rfl (rd_assign rfl) ?_
          refine ws_nil ?_
          exact qe_loop fun ac2 w2 hs2 => ⟨_, by (simp only [cmpP] at h49; omega), i + 1, (l2.set (i % l2.length) y).set (z.toNat % l2.length) x, [(g5, .cells cur7 41 (0, 0))], rfl, (by simp only [cmpP] at h49; omega), ((swap_perm hx hy).trans hperm), (by rw [hv5, List.length_set, List.length_set]; exact hown7), st_sub hs2 _ rfl⟩
        ·
          refine ws_l rfl rfl rfl rfl (rd_load rfl) ?_
          refine od_go ?_
          refine od_seq ?_
          refine ws_l rfl rfl rfl rfl (rd_load rfl) ?_
          refine ws_r rfl rfl rfl rfl (rd_ix (j := (i % l2.length)) rfl rfl Try.underlying22 Try.sizeOf41 (by omega)) ?_
          obtain ⟨cur6, hwr6, hown6⟩ := own_set mvL_len Try.sizeOf41 (Eq.refl l2.length) hown3 hA y (v := mvK y) (mv_cells y) (mvL_one y)
          refine ws_store (hw := hwr6) rfl rfl rfl rfl (.inl hb5) (fun q h _ => by first | (cases h; done) | (simp [h])) ?_
          refine ws_late rfl ?_
          refine ws_l rfl rfl rfl rfl (rd_ix (j := (z.toNat % l2.length)) rfl rfl Try.underlying22 Try.sizeOf41 (by omega)) ?_
          obtain ⟨cur7, hwr7, hown7⟩ := own_set mvL_len Try.sizeOf41 (by rw [List.length_set]) hown6 hB x (v := mvK x) (mv_cells x) (mvL_one x)
          refine ws_store (hw := hwr7) rfl rfl rfl rfl (.inl hb5) (fun q h _ => by first | (cases h; done) | (simp [h])) ?_
          refine ws_nil ?_
          refine qe_block ?_
          refine qe_then ?_
          refine wc_plain [(0, .x true), (1, .x true), (2, .x true)] (by kernel_rfl) ?_
          refine ws_l rfl rfl rfl rfl (rd_move rfl) ?_
          refine ws_l rfl rfl rfl rfl (rd_arith (((i + 1 : Nat) : Nat) : Int) rfl rfl rfl (by rw [wrap_i64 _ (by omega) (by omega)]; omega)) ?_
          refine ws_l rfl rfl rfl rfl (rd_assign rfl) ?_
          refine ws_nil ?_
          exact qe_loop fun ac2 w2 hs2 => ⟨_, by (simp only [cmpP] at h49; omega), i + 1, (l2.set (i % l2.length) y).set (z.toNat % l2.length) x, [(g5, .cells cur7 41 (0, 0))], rfl, (by simp only [cmpP] at h49; omega), ((swap_perm hx hy).trans hperm), (by rw [hv5, List.length_set, List.length_set]; exact hown7), st_sub hs2 _ rfl⟩
      · intro h53
        refine ws_l rfl rfl rfl rfl (rd_pick_t rfl rfl) ?_
        refine ws_nil ?_
        refine qe_then ?_
        refine wc_false rfl ?_
        refine wc_exit ?_
        refine qe_then_exit ?_
        refine qe_then_exit ?_
        refine qe_block_exit ?_
        refine qe_then ?_
        refine wc_keep [(5, _), (8, _), (9, _)] rfl ?_
        refine wc_seq ?_
        refine wc_plain [(0, .x true), (1, .x true), (2, .x true), (3, .x true), (4, .x true), (5, .x true), (6, .x true), (7, .x true), (8, .x true)] (by kernel_rfl) ?_
        refine ws_l rfl rfl rfl rfl (rd_move rfl) ?_
        refine ws_call rfl rfl rfl rfl rfl (En.go) (fun w hp hn ho => build_law v5 ν5b l2 hown2.src 16 (by omega) w (hp.mono SubH.mem) (SubH.nd hn)) (fun _ h => by cases h) (fun hh q h => by first | (cases h; done) | exact hh q h) ?_
        rintro v85 wa wb hpo hon hon2 hp1 ⟨p2, m2, k2, es2, c2, ws2, d2, L2, W2, v82, νl2, rfl, hph2, hpn2, hpf2, hL2, hW2, hok2, hlo2⟩
        refine ⟨_, hph2, hpn2, fun b hb => .inl (hpf2 b hb), ?_⟩
        replace hlo2 := hlo2.mono hon.size
        have hpf2' := fun b hb => Nat.le_trans hon.size (hpf2 b hb)
        have hl242 : (buildF (l2.take 16)).length < 8192 := by have h1 := buildF_len (l2.take 16); rw [List.length_take] at h1; omega
        simp only [List.cons_append, List.append_assoc]
        refine ws_l rfl rfl rfl rfl (rd_move rfl) ?_
        refine ws_l rfl rfl rfl rfl (rd_extract rfl) ?_
        refine ws_l rfl rfl rfl rfl (rd_extract rfl) ?_
        refine ws_l rfl rfl rfl rfl (rd_extract rfl) ?_
        refine ws_l rfl rfl rfl rfl (rd_assign rfl) ?_
        refine ws_l rfl rfl rfl rfl (rd_assign rfl) ?_
        refine ws_l rfl rfl rfl rfl (rd_assign rfl) ?_
        refine ws_nil ?_
        refine qe_then ?_
        refine wc_keep [(8, _), (9, _), (14, _)] rfl ?_
        refine wc_seq ?_
        refine wc_plain [(0, .x true), (1, .x true), (2, .x true), (3, .x true), (4, .x true), (5, .x true), (6, .x true), (7, .x true), (8, .x true), (9, .x true), (10, .x true), (11, .x true), (12, .x true), (13, .x true)] (by kernel_rfl) ?_
        have hl16 : l.length ≤ 16 := by omega
        have hbp : (buildF (l2.take 16)).Perm (buildF (l.take 16)) := by rw [List.take_of_length_le hl16, List.take_of_length_le (by rw [hperm.length_eq]; exact hl16)]; exact build_perm (hnum.nd hl16) hperm
        refine ws_l rfl rfl rfl rfl (rd_move rfl) ?_
        refine ws_l rfl rfl rfl rfl (rd_move rfl) ?_
        refine ws_callp rfl rfl rfl rfl rfl (En.go) (fun w hp hn ho => by have h := equal_ret p m k p2 m2 k2 es es2 c c2 L L2 W W2 (buildF (l.take 16)) (buildF (l2.take 16)) hL hL2 hok hok2 w (hp.mono SubH.mem) (SubH.nd hn); rwa [decide_eq_true (sameF_perm hbp.symm)] at h) ?_
        refine ws_l rfl rfl rfl rfl (rd_move rfl) ?_
        refine ws_l rfl rfl rfl rfl (rd_move rfl) ?_
        refine ws_l rfl rfl rfl rfl (rd_move rfl) ?_
        refine ws_callp rfl rfl rfl rfl rfl (En.go) (fun w hp hn ho => by have h := equal_ret p2 m2 k2 p m k es2 es c2 c L2 L W2 W (buildF (l2.take 16)) (buildF (l.take 16)) hL2 hL hok2 hok w (hp.mono SubH.mem) (SubH.nd hn); rwa [decide_eq_true (sameF_perm hbp)] at h) ?_
        refine ws_l rfl rfl rfl rfl (rd_pick_t rfl rfl) ?_
        refine ws_l rfl rfl rfl rfl (rd_move rfl) ?_
        refine ws_l rfl rfl rfl rfl (rd_move rfl) ?_
        refine ws_l rfl rfl rfl rfl (rd_move rfl) ?_
        refine ws_callp rfl rfl rfl rfl rfl (En.go) (fun w hp hn ho => chains_law p2 m2 k2 es2 ws2 c2 d2 L2 W2 (buildF (l2.take 16)) hL2 hW2 hok2 hl242 v8 νl (buildF (l.take 16)) hlo.src hl24 hok.ok (fun a => chain_congr (fun x => hbp.mem_iff) (idU_nd hok2.nd) a) w (hp.mono SubH.mem) (SubH.nd hn)) ?_
        refine ws_l rfl rfl rfl rfl (rd_pick_t rfl rfl) ?_
        refine ws_l rfl rfl rfl rfl (rd_assign rfl) ?_
        refine ws_nil ?_
        refine qe_then ?_
        refine wc_keep [(4, _)] rfl ?_
        refine wc_ret ?_
        refine qe_body _ (.inl rfl) (res1 rfl (RV.tmp rfl)) ?_
        exact ret_end fun w hp hn ho => rfl
    · intro h49
      refine ws_l rfl rfl rfl rfl (rd_move rfl) ?_
      refine ws_xskip rfl rfl rfl rfl ?_
      refine ws_xskip rfl rfl rfl rfl ?_
      refine ws_xskip rfl rfl rfl rfl ?_
      refine ws_l rfl rfl rfl rfl (rd_pick_f rfl rfl) ?_
      refine ws_nil ?_
      refine qe_then ?_
      refine wc_false rfl ?_
      refine wc_exit ?_
      refine qe_then_exit ?_
      refine qe_then_exit ?_
      refine qe_block_exit ?_
      refine qe_then ?_
      refine wc_keep [(5, _), (8, _), (9, _)] rfl ?_
      refine wc_seq ?_
      refine wc_plain [(0, .x true), (1, .x true), (2, .x true), (3, .x true), (4, .x true), (5, .x true), (6, .x true), (7, .x true), (8, .x true)] (by kernel_rfl) ?_
      refine ws_l rfl rfl rfl rfl (rd_move rfl) ?_
      refine ws_call rfl rfl rfl rfl rfl (En.go) (fun w hp hn ho => build_law v5 ν5b l2 hown2.src 16 (by omega) w (hp.mono SubH.mem) (SubH.nd hn)) (fun _ h => by cases h) (fun hh q h => by first | (cases h; done) | exact hh q h) ?_
      rintro v85 wa wb hpo hon hon2 hp1 ⟨p2, m2, k2, es2, c2, ws2, d2, L2, W2, v82, νl2, rfl, hph2, hpn2, hpf2, hL2, hW2, hok2, hlo2⟩
      refine ⟨_, hph2, hpn2, fun b hb => .inl (hpf2 b hb), ?_⟩
      replace hlo2 := hlo2.mono hon.size
      have hpf2' := fun b hb => Nat.le_trans hon.size (hpf2 b hb)
      have hl242 : (buildF (l2.take 16)).length < 8192 := by have h1 := buildF_len (l2.take 16); rw [List.length_take] at h1; omega
      simp only [List.cons_append, List.append_assoc]
      refine ws_l rfl rfl rfl rfl (rd_move rfl) ?_
      refine ws_l rfl rfl rfl rfl (rd_extract rfl) ?_
      refine ws_l rfl rfl rfl rfl (rd_extract rfl) ?_
      refine ws_l rfl rfl rfl rfl (rd_extract rfl) ?_
      refine ws_l rfl rfl rfl rfl (rd_assign rfl) ?_
      refine ws_l rfl rfl rfl rfl (rd_assign rfl) ?_
      refine ws_l rfl rfl rfl rfl (rd_assign rfl) ?_
      refine ws_nil ?_
      refine qe_then ?_
      refine wc_keep [(8, _), (9, _), (14, _)] rfl ?_
      refine wc_seq ?_
      refine wc_plain [(0, .x true), (1, .x true), (2, .x true), (3, .x true), (4, .x true), (5, .x true), (6, .x true), (7, .x true), (8, .x true), (9, .x true), (10, .x true), (11, .x true), (12, .x true), (13, .x true)] (by kernel_rfl) ?_
      have hl16 : l.length ≤ 16 := by omega
      have hbp : (buildF (l2.take 16)).Perm (buildF (l.take 16)) := by rw [List.take_of_length_le hl16, List.take_of_length_le (by rw [hperm.length_eq]; exact hl16)]; exact build_perm (hnum.nd hl16) hperm
      refine ws_l rfl rfl rfl rfl (rd_move rfl) ?_
      refine ws_l rfl rfl rfl rfl (rd_move rfl) ?_
      refine ws_callp rfl rfl rfl rfl rfl (En.go) (fun w hp hn ho => by have h := equal_ret p m k p2 m2 k2 es es2 c c2 L L2 W W2 (buildF (l.take 16)) (buildF (l2.take 16)) hL hL2 hok hok2 w (hp.mono SubH.mem) (SubH.nd hn); rwa [decide_eq_true (sameF_perm hbp.symm)] at h) ?_
      refine ws_l rfl rfl rfl rfl (rd_move rfl) ?_
      refine ws_l rfl rfl rfl rfl (rd_move rfl) ?_
      refine ws_l rfl rfl rfl rfl (rd_move rfl) ?_
      refine ws_callp rfl rfl rfl rfl rfl (En.go) (fun w hp hn ho => by have h := equal_ret p2 m2 k2 p m k es2 es c2 c L2 L W2 W (buildF (l2.take 16)) (buildF (l.take 16)) hL2 hL hok2 hok w (hp.mono SubH.mem) (SubH.nd hn); rwa [decide_eq_true (sameF_perm hbp)] at h) ?_
      refine ws_l rfl rfl rfl rfl (rd_pick_t rfl rfl) ?_
      refine ws_l rfl rfl rfl rfl (rd_move rfl) ?_
      refine ws_l rfl rfl rfl rfl (rd_move rfl) ?_
      refine ws_l rfl rfl rfl rfl (rd_move rfl) ?_
      refine ws_callp rfl rfl rfl rfl rfl (En.go) (fun w hp hn ho => chains_law p2 m2 k2 es2 ws2 c2 d2 L2 W2 (buildF (l2.take 16)) hL2 hW2 hok2 hl242 v8 νl (buildF (l.take 16)) hlo.src hl24 hok.ok (fun a => chain_congr (fun x => hbp.mem_iff) (idU_nd hok2.nd) a) w (hp.mono SubH.mem) (SubH.nd hn)) ?_
      refine ws_l rfl rfl rfl rfl (rd_pick_t rfl rfl) ?_
      refine ws_l rfl rfl rfl rfl (rd_assign rfl) ?_
      refine ws_nil ?_
      refine qe_then ?_
      refine wc_keep [(4, _)] rfl ?_
      refine wc_ret ?_
      refine qe_body _ (.inl rfl) (res1 rfl (RV.tmp rfl)) ?_
      exact ret_end fun w hp hn ho => rfl

end Go.Proofs.Ytheioljidangkaa
