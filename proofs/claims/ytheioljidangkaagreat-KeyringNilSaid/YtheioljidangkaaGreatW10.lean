/- Walks: comparisons, the smallest one. No conditions. -/
import Derived.Test.YtheioljidangkaaGreatW9
namespace Go.Proofs.YtheioljidangkaaGreat
open Go Go.RowKit Go.Sx
set_option linter.unusedSimpArgs false
set_option linter.unusedVariables false

theorem bt {p : Prop} [Decidable p] (h : p) : Value.bool true = Value.bool (decide p) := by rw [decide_eq_true h]
theorem bf {p : Prop} [Decidable p] (h : ¬ p) : Value.bool false = Value.bool (decide p) := by rw [decide_eq_false h]
theorem bg_at {bs : List UInt8} {j : Nat} (h : j < bs.length) : bs[j]? = some (bg bs j) := by simp [bg, h]
theorem at_any {α : Type} {enc : α → List Value} {k : Nat} (hk : ∀ x, (enc x).length = k) {cur : Array Value} {o : Nat} {rows : List α} {j : Nat} {r : α} (hcur : ∀ i v, (rows.flatMap enc)[i]? = some v → cur[o + i]? = some v) (hx : rows[j]? = some r) (i : Nat) (hi : i < k) : cur[o + j * k + i]? = (enc r)[i]? := by
  have h1 := flat_at hk rows j i r hx hi
  have hl : i < (enc r).length := by rw [hk]; exact hi
  rw [List.getElem?_eq_getElem hl] at h1 ⊢
  rw [Nat.add_assoc, hcur _ _ h1]
theorem at_pub {cur : Array Value} {o : Nat} {rows : List Pub} {j : Nat} {r : Pub} (hcur : ∀ i v, (rows.flatMap pubL)[i]? = some v → cur[o + i]? = some v) (hx : rows[j]? = some r) : AtP cur (o + j * 17) r := ⟨fun i hi => by rw [at_any pubL_len hcur hx i hi]; simp⟩
theorem at_rk {cur : Array Value} {o : Nat} {rows : List RK} {j : Nat} {r : RK} (hcur : ∀ i v, (rows.flatMap rkL)[i]? = some v → cur[o + i]? = some v) (hx : rows[j]? = some r) : AtR cur (o + j * 84) r := ⟨fun i hi => by rw [at_any rkL_len hcur hx i hi]; simp⟩
theorem at_kk {cur : Array Value} {o : Nat} {rows : List KK} {j : Nat} {r : KK} (hcur : ∀ i v, (rows.flatMap kkL)[i]? = some v → cur[o + i]? = some v) (hx : rows[j]? = some r) : AtK cur (o + j * 51) r := ⟨fun i hi => by rw [at_any kkL_len hcur hx i hi]; simp⟩
instance (x y : Int) : BuildsS Tryz.prog 88 2 [(0, I x), (1, I y)] 3 #[I x, I y] := BuildsS.two Tryz.underlying88 Tryz.sizeOf3 Tryz.zeroValue3 inferInstance inferInstance
instance (p : Pub) : BuildsS Tryz.prog 110 1 [(0, pubK p)] 35 (pubC p) := BuildsS.one Tryz.underlying110 Tryz.sizeOf35 rfl rfl Tryz.zeroValue35 rfl (pubC_size p)
instance (r : RK) : BuildsS Tryz.prog 104 1 [(0, rkK r)] 98 (rkC r) := BuildsS.one Tryz.underlying104 Tryz.sizeOf98 rfl rfl Tryz.zeroValue98 rfl (rkC_size r)
instance (r : RK) : BuildsS Tryz.prog 25 1 [(0, rkK r)] 53 (rkC r) := BuildsS.one Tryz.underlying25 Tryz.sizeOf53 rfl rfl Tryz.zeroValue53 rfl (rkC_size r)
instance (k : KK) : BuildsS Tryz.prog 33 1 [(0, kkK k)] 79 (kkC k) := BuildsS.one Tryz.underlying33 Tryz.sizeOf79 rfl rfl Tryz.zeroValue79 rfl (kkC_size k)
instance (k : KK) : BuildsS Tryz.prog 47 1 [(0, kkK k)] 39 (kkC k) := BuildsS.one Tryz.underlying47 Tryz.sizeOf39 rfl rfl Tryz.zeroValue39 rfl (kkC_size k)
set_option maxRecDepth 100000 in
theorem bytescmp_ret {b b' o o' n n' c c' : Nat} {cs cs' : Array Value} {E E' : TypeId} {fr fr' : Nat × Nat} {bs bs' : List UInt8} [BytesAt cs o n bs] [BytesAt cs' o' n' bs'] (hne : b ≠ b') (w : World) (hη : HpOK [(b, .cells cs E fr), (b', .cells cs' E' fr')] w) :
    Ret Tryz.prog 41 [.slice (some ⟨b, o, none⟩) n c, .slice (some ⟨b', o', none⟩) n' c'] w [] (fun v _ => v = I (Lib.compareBytes bs bs'))  := by
  refine enter (n := 8) (args := [.slice (some ⟨b, o, none⟩) n c, .slice (some ⟨b', o', none⟩) n' c']) [] [(b, .cells cs E fr), (b', .cells cs' E' fr')] Tryz.func41 rfl rfl rfl hη (by simp [hne]) ?_
  refine wc_seq ?_
  refine wc_plain [(0, .x true)] (by kernel_rfl) ?_
  refine ws_l rfl rfl rfl rfl (rd_assign rfl) ?_
  refine ws_nil ?_
  refine qe_then ?_
  refine wc_seq ?_
  refine wc_plain [(0, .x true), (1, .x true), (2, .x true), (3, .x true)] (by kernel_rfl) ?_
  refine ws_l rfl rfl rfl rfl (rd_move rfl) ?_
  refine ws_l rfl rfl rfl rfl (rd_move rfl) ?_
  refine ws_l rfl rfl rfl rfl (rd_extern Tryz.func59 (by kernel_rfl) (by kernel_rfl) (by kernel_rfl) (e := Extern.BytealgCompare.compare) (by kernel_rfl) rfl rfl (fun w hp => run_compareBytes (hp b (.cells cs E fr) (by simp)) (hp b' (.cells cs' E' fr') (by simp)))) ?_
  refine ws_l rfl rfl rfl rfl (rd_assign rfl) ?_
  refine ws_nil ?_
  refine qe_then ?_
  refine wc_keep [(4, _)] rfl ?_
  refine wc_ret ?_
  refine qe_body _ (.inl rfl) (res1 rfl (RV.tmp rfl)) ?_
  exact ret_end fun w hp hn ho => rfl
set_option maxRecDepth 100000 in
set_option maxHeartbeats 1000000 in
theorem isnan_ret (n : Int) (w : World) : Ret Tryz.prog 87 [I n] w [] (fun v _ => v = .bool false) := by
  refine enter (n := 6) (args := [I n]) [] [] Tryz.func87 rfl rfl rfl (HpOK.nil w) (by simp) ?_
  refine wc_seq ?_
  refine wc_plain [(0, .x true)] (by kernel_rfl) ?_
  refine ws_l rfl rfl rfl rfl (rd_assign rfl) ?_
  refine ws_nil ?_
  refine qe_then ?_
  refine wc_seq ?_
  refine wc_plain [(0, .x true), (1, .x true), (2, .x true), (3, .x true)] (by kernel_rfl) ?_
  refine ws_l rfl rfl rfl rfl (rd_move rfl) ?_
  refine ws_l rfl rfl rfl rfl (rd_move rfl) ?_
  refine ws_l rfl rfl rfl rfl (rd_cmp_f rfl rfl rfl (by simp [cmpP])) ?_
  refine ws_l rfl rfl rfl rfl (rd_assign rfl) ?_
  refine ws_nil ?_
  refine qe_then ?_
  refine wc_ret ?_
  refine qe_body _ (.inl rfl) (res1 rfl (RV.tmp rfl)) ?_
  exact ret_end fun w hp hn ho => rfl
set_option maxRecDepth 100000 in
set_option maxHeartbeats 1000000 in
theorem cmp_ret (m n : Int) (w : World) : Ret Tryz.prog 65 [I m, I n] w [] (fun v _ => v = I (cmpF m n)) := by
  refine enter (n := 20) (args := [I m, I n]) [] [] Tryz.func65 rfl rfl rfl (HpOK.nil w) (by simp) ?_
  refine wc_seq ?_
  refine wc_plain [(0, .x true)] (by kernel_rfl) ?_
  refine ws_l rfl rfl rfl rfl (rd_assign rfl) ?_
  refine ws_nil ?_
  refine qe_then ?_
  refine wc_seq ?_
  refine wc_plain [(0, .x true), (1, .x true), (2, .x true)] (by kernel_rfl) ?_
  refine ws_l rfl rfl rfl rfl (rd_move rfl) ?_
  refine ws_callp rfl rfl rfl rfl rfl (En.go) (fun w hp hn ho => isnan_ret _ w) ?_
  refine ws_l rfl rfl rfl rfl (rd_assign rfl) ?_
  refine ws_nil ?_
  refine qe_then ?_
  refine wc_seq ?_
  refine wc_plain [(0, .x true), (1, .x true), (2, .x true)] (by kernel_rfl) ?_
  refine ws_l rfl rfl rfl rfl (rd_move rfl) ?_
  refine ws_callp rfl rfl rfl rfl rfl (En.go) (fun w hp hn ho => isnan_ret _ w) ?_
  refine ws_l rfl rfl rfl rfl (rd_assign rfl) ?_
  refine ws_nil ?_
  refine qe_then ?_
  refine wc_seq ?_
  refine wc_seq ?_
  refine wc_plain [(0, .x true)] (by kernel_rfl) ?_
  refine ws_l rfl rfl rfl rfl (rd_move rfl) ?_
  refine ws_nil ?_
  refine qe_then ?_
  refine wc_keep [(0, _), (1, _), (4, _), (6, _), (11, _)] rfl ?_
  refine wc_false rfl ?_
  refine wc_skip ?_
  refine qe_then ?_
  refine wc_seq ?_
  refine wc_seq ?_
  refine wc_plain [(0, .x true)] (by kernel_rfl) ?_
  refine ws_l rfl rfl rfl rfl (rd_move rfl) ?_
  refine ws_nil ?_
  refine qe_then ?_
  refine wc_false rfl ?_
  refine wc_skip ?_
  refine qe_then ?_
  refine wc_seq ?_
  refine wc_seq ?_
  refine wc_plain [(0, .x true), (1, .x true), (2, .x true)] (by kernel_rfl) ?_
  refine ws_l rfl rfl rfl rfl (rd_move rfl) ?_
  refine ws_l rfl rfl rfl rfl (rd_move rfl) ?_
  refine ws_lcmp rfl rfl rfl (rfl) (rfl) (rfl) ?_ ?_
  · intro h16
    refine ws_nil ?_
    refine qe_then ?_
    refine wc_keep [(0, _), (1, _), (4, _), (16, _)] rfl ?_
    refine wc_true rfl ?_
    refine wc_seq ?_
    refine wc_plain [(0, .x true)] (by kernel_rfl) ?_
    refine ws_l rfl rfl rfl rfl (rd_assign rfl) ?_
    refine ws_nil ?_
    refine qe_then ?_
    refine wc_ret ?_
    refine qe_then_ret ?_
    refine qe_body _ (.inl rfl) (res1 rfl (RV.tmp rfl)) ?_
    exact ret_end fun w hp hn ho => by simp only [cmpF]; split <;> first | rfl | (split <;> first | rfl | omega) | omega
  · intro h16
    refine ws_nil ?_
    refine qe_then ?_
    refine wc_keep [(0, _), (1, _), (4, _), (16, _)] rfl ?_
    refine wc_false rfl ?_
    refine wc_skip ?_
    refine qe_then ?_
    refine wc_seq ?_
    refine wc_seq ?_
    refine wc_plain [(0, .x true), (1, .x true), (2, .x true)] (by kernel_rfl) ?_
    refine ws_l rfl rfl rfl rfl (rd_move rfl) ?_
    refine ws_l rfl rfl rfl rfl (rd_move rfl) ?_
    refine ws_lcmp rfl rfl rfl (rfl) (rfl) (rfl) ?_ ?_
    · intro h19
      refine ws_nil ?_
      refine qe_then ?_
      refine wc_keep [(4, _), (19, _)] rfl ?_
      refine wc_true rfl ?_
      refine wc_seq ?_
      refine wc_plain [(0, .x true)] (by kernel_rfl) ?_
      refine ws_l rfl rfl rfl rfl (rd_assign rfl) ?_
      refine ws_nil ?_
      refine qe_then ?_
      refine wc_ret ?_
      refine qe_then_ret ?_
      refine qe_body _ (.inl rfl) (res1 rfl (RV.tmp rfl)) ?_
      exact ret_end fun w hp hn ho => by simp only [cmpF]; split <;> first | rfl | (split <;> first | rfl | omega) | omega
    · intro h19
      refine ws_nil ?_
      refine qe_then ?_
      refine wc_keep [(4, _), (19, _)] rfl ?_
      refine wc_false rfl ?_
      refine wc_skip ?_
      refine qe_then ?_
      refine wc_seq ?_
      refine wc_plain [(0, .x true)] (by kernel_rfl) ?_
      refine ws_l rfl rfl rfl rfl (rd_assign rfl) ?_
      refine ws_nil ?_
      refine qe_then ?_
      refine wc_ret ?_
      refine qe_body _ (.inl rfl) (res1 rfl (RV.tmp rfl)) ?_
      exact ret_end fun w hp hn ho => by simp only [cmpF]; split <;> first | rfl | (split <;> first | rfl | omega) | omega
set_option maxRecDepth 100000 in
set_option maxHeartbeats 1000000 in
theorem or_ret (b : Nat) (xs : List Int) (hlen : xs.length < 1048576) (w : World) (hη : HpOK [(b, .cells (xs.map I).toArray 3 (0, 0))] w) : Ret Tryz.prog 64 [.slice (some ⟨b, 0, none⟩) xs.length xs.length] w [] (fun v _ => v = I (orF xs)) := by
  refine enter (n := 18) (args := [.slice (some ⟨b, 0, none⟩) xs.length xs.length]) [] [(b, .cells (xs.map I).toArray 3 (0, 0))] Tryz.func64 rfl rfl rfl hη (by simp) ?_
  refine wc_seq ?_
  refine wc_plain [(0, .x true)] (by kernel_rfl) ?_
  refine ws_l rfl rfl rfl rfl (rd_assign rfl) ?_
  refine ws_nil ?_
  refine qe_then ?_
  refine wc_seq ?_
  refine wc_plain [(0, .x true)] (by kernel_rfl) ?_
  refine ws_l rfl rfl rfl rfl (rd_assign rfl) ?_
  refine ws_nil ?_
  refine qe_then ?_
  refine wc_seq ?_
  refine wc_seq ?_
  refine wc_plain [(0, .x true), (1, .x true), (2, .x true)] (by kernel_rfl) ?_
  refine ws_l rfl rfl rfl rfl (rd_move rfl) ?_
  refine ws_l rfl rfl rfl rfl (rd_len rfl Tryz.underlying88) ?_
  refine ws_l rfl rfl rfl rfl (rd_move rfl) ?_
  refine ws_nil ?_
  refine qe_then ?_
  refine wc_block ?_
  refine wc_loop (fun mz ac w1 => ∃ (j : Nat), mz = xs.length - j ∧ (j ≤ xs.length) ∧ (orF (xs.drop j) = orF xs) ∧ St 18 w [] [(3, I 0), (6, .slice (some ⟨b, 0, none⟩) xs.length xs.length), (7, I xs.length), (8, I j)] [(b, .cells (xs.map I).toArray 3 (0, 0))] ac w1) _ (fun ac w1 hs => ⟨0, rfl, (by omega), (by simp), st_sub hs _ rfl⟩) ?_
  rintro _ ac1 wl1 ⟨j, rfl, hj, hf, hs1⟩
  refine wc_at hs1 ?_
  refine wc_seq ?_
  refine wc_plain [(0, .x true)] (by kernel_rfl) ?_
  refine ws_lcmp rfl rfl rfl (rfl) (rfl) (rfl) ?_ ?_
  · intro h9
    refine ws_nil ?_
    refine qe_then ?_
    refine wc_seq ?_
    refine wc_true rfl ?_
    refine wc_skip ?_
    refine qe_then ?_
    refine wc_seq ?_
    refine wc_block ?_
    refine wc_seq ?_
    refine wc_plain [(0, .x true), (1, .x true), (2, .x true)] (by kernel_rfl) ?_
    obtain ⟨x, hx⟩ := at_ex (l := xs) (j := j) (by omega)
    have atx : GetAt (xs.map I).toArray (j * 1) (I x) := ⟨by simp [hx]⟩
    refine ws_l rfl rfl rfl rfl (rd_ix rfl rfl Tryz.underlying88 Tryz.sizeOf3 (by omega)) ?_
    refine ws_l rfl rfl rfl rfl (rd_load rfl) ?_
    refine ws_l rfl rfl rfl rfl (rd_assign rfl) ?_
    refine ws_nil ?_
    refine qe_then ?_
    refine wc_seq ?_
    refine wc_plain [(0, .x true), (1, .x true), (2, .x true)] (by kernel_rfl) ?_
    refine ws_l rfl rfl rfl rfl (rd_move rfl) ?_
    refine ws_l rfl rfl rfl rfl (rd_move rfl) ?_
    refine ws_lcmp rfl rfl rfl (rfl) (rfl) (rfl) ?_ ?_
    · intro h14
      refine ws_nil ?_
      refine qe_then ?_
      refine wc_true rfl ?_
      refine wc_seq ?_
      refine wc_plain [(0, .x true), (1, .x true)] (by kernel_rfl) ?_
      refine ws_l rfl rfl rfl rfl (rd_move rfl) ?_
      refine ws_l rfl rfl rfl rfl (rd_assign rfl) ?_
      refine ws_nil ?_
      refine qe_then ?_
      refine wc_ret ?_
      refine qe_block_ret ?_
      refine qe_then_ret ?_
      refine qe_then_ret ?_
      refine qe_block_ret ?_
      refine qe_then_ret ?_
      refine qe_body _ (.inl rfl) (res1 rfl (RV.tmp rfl)) ?_
      exact ret_end fun w hp hn ho => by rw [← hf]; simp [orF, drop_at hx, *]
    · intro h14
      refine ws_nil ?_
      refine qe_then ?_
      refine wc_false rfl ?_
      refine wc_skip ?_
      refine qe_block ?_
      refine qe_then ?_
      refine wc_plain [(0, .x true), (1, .x true)] (by kernel_rfl) ?_
      refine ws_l rfl rfl rfl rfl (rd_arith (((j + 1 : Nat) : Nat) : Int) rfl rfl rfl (by rw [wrap_i64 _ (by omega) (by omega)]; omega)) ?_
      refine ws_l rfl rfl rfl rfl (rd_move rfl) ?_
      refine ws_nil ?_
      exact qe_loop fun ac2 w2 hs2 => ⟨_, by omega, j + 1, rfl, (by omega), (by rw [← hf, drop_at hx]; have h0 : x = 0 := (by omega); simp [orF, h0]), st_sub hs2 _ rfl⟩
  · intro h9
    refine ws_nil ?_
    refine qe_then ?_
    refine wc_seq ?_
    refine wc_false rfl ?_
    refine wc_exit ?_
    refine qe_then_exit ?_
    refine qe_then_exit ?_
    refine qe_block_exit ?_
    refine qe_then ?_
    refine wc_seq ?_
    refine wc_plain [(0, .x true), (1, .x true)] (by kernel_rfl) ?_
    refine ws_l rfl rfl rfl rfl (rd_move rfl) ?_
    refine ws_l rfl rfl rfl rfl (rd_assign rfl) ?_
    refine ws_nil ?_
    refine qe_then ?_
    refine wc_keep [(2, _)] rfl ?_
    refine wc_ret ?_
    refine qe_body _ (.inl rfl) (res1 rfl (RV.tmp rfl)) ?_
    exact ret_end fun w hp hn ho => by rw [← hf, List.drop_eq_nil_of_le (by omega)]; rfl
set_option maxRecDepth 100000 in
set_option maxHeartbeats 1000000 in
theorem idcmp_ret (a b : Id) (w : World) : Ret Tryz.prog 54 [idK a, idK b] w [] (fun v _ => v = I (cmpV a b)) := by
  refine enter (n := 8) (args := [idK a, idK b]) [] [] Tryz.func54 rfl rfl rfl (HpOK.nil w) (by simp) ?_
  refine wc_seq ?_
  refine wc_plain [(0, .x true), (1, .x true), (2, .x true)] (by kernel_rfl) ?_
  refine ws_box rfl rfl rfl rfl ?_
  intro b2 hb2
  refine ws_box rfl rfl rfl rfl ?_
  intro b3 hb3
  refine ws_l rfl rfl rfl rfl (rd_assign rfl) ?_
  refine ws_nil ?_
  refine qe_then ?_
  refine wc_seq ?_
  refine wc_drawn mixedT _ (fun _ h => h) [(0, .r), (1, .r), (2, .x true), (3, .x true)] (by kernel_rfl) ?_
  refine ws_r rfl rfl rfl rfl (rd_sliceArr rfl Tryz.underlying37 rfl Tryz.sizeOf5) ?_
  refine ws_r rfl rfl rfl rfl (rd_sliceArr rfl Tryz.underlying37 rfl Tryz.sizeOf5) ?_
  refine ws_late rfl ?_
  refine ws_callp rfl rfl rfl rfl rfl (En.go) (fun w hp hn ho => bytescmp_ret (b := b2) (b' := b3) (cs := idC a) (cs' := idC b) (E := 37) (E' := 37) (fr := (0, 0)) (fr' := (0, 0)) (fun e => by subst e; simp at hn) w (hp.mono (by simp))) ?_
  refine ws_l rfl rfl rfl rfl (rd_assign rfl) ?_
  refine ws_nil ?_
  refine qe_then ?_
  refine wc_keep [(4, _)] rfl ?_
  refine wc_ret ?_
  refine qe_body _ (.inl rfl) (res1 rfl (RV.tmp rfl)) ?_
  exact ret_end fun w hp hn ho => rfl
set_option maxRecDepth 100000 in
set_option maxHeartbeats 1000000 in
theorem pcmp_ret (a b : Pub) (w : World) : Ret Tryz.prog 48 [pubK a, pubK b] w [] (fun v _ => v = I (pubF a b)) := by
  refine enter (n := 17) (args := [pubK a, pubK b]) [] [] Tryz.func48 rfl rfl rfl (HpOK.nil w) (by simp) ?_
  refine wc_seq ?_
  refine wc_plain [(0, .x true), (1, .x true), (2, .x true)] (by kernel_rfl) ?_
  refine ws_box rfl rfl rfl rfl ?_
  intro b2 hb2
  refine ws_box rfl rfl rfl rfl ?_
  intro b3 hb3
  refine ws_l rfl rfl rfl rfl (rd_assign rfl) ?_
  refine ws_nil ?_
  refine qe_then ?_
  refine wc_seq ?_
  refine wc_drawn mixedT _ (fun _ h => h) [(0, .r), (1, .r), (2, .r), (3, .r), (5, .r), (6, .r), (7, .r), (8, .r), (4, .x false), (9, .x true), (10, .x true), (11, .x true), (12, .x true)] (by kernel_rfl) ?_
  refine ws_r rfl rfl rfl rfl (rd_fieldAddr rfl) ?_
  refine ws_r rfl rfl rfl rfl (rd_load rfl) ?_
  refine ws_r rfl rfl rfl rfl (rd_fieldAddr rfl) ?_
  refine ws_r rfl rfl rfl rfl (rd_load rfl) ?_
  refine ws_r rfl rfl rfl rfl (rd_fieldAddr rfl) ?_
  refine ws_r rfl rfl rfl rfl (rd_sliceArr rfl Tryz.underlying28 rfl Tryz.sizeOf5) ?_
  refine ws_r rfl rfl rfl rfl (rd_fieldAddr rfl) ?_
  refine ws_r rfl rfl rfl rfl (rd_sliceArr rfl Tryz.underlying28 rfl Tryz.sizeOf5) ?_
  refine ws_callp rfl rfl rfl rfl rfl (En.go) (fun w hp hn ho => cmp_ret _ _ w) ?_
  refine ws_late rfl ?_
  refine ws_callp rfl rfl rfl rfl rfl (En.go) (fun w hp hn ho => bytescmp_ret (b := b2) (b' := b3) (cs := pubC a) (cs' := pubC b) (E := 35) (E' := 35) (fr := (0, 0)) (fr' := (0, 0)) (fun e => by subst e; simp at hn) w (hp.mono (by simp))) ?_
  refine ws_buildSlice rfl rfl rfl rfl ?_
  intro b15 hb15
  refine ws_callp rfl rfl rfl rfl rfl (En.go) (fun w hp hn ho => or_ret b15 [cmpF a.h b.h, cmpV a.root b.root] (by simp) w (hp.mono (by simp))) ?_
  refine ws_l rfl rfl rfl rfl (rd_assign rfl) ?_
  refine ws_nil ?_
  refine qe_then ?_
  refine wc_keep [(4, _)] rfl ?_
  refine wc_ret ?_
  refine qe_body _ (.inl rfl) (res1 rfl (RV.tmp rfl)) ?_
  exact ret_end fun w hp hn ho => rfl
set_option maxRecDepth 100000 in
set_option maxHeartbeats 1000000 in
theorem rcmp_ret (a b : RK) (w : World) : Ret Tryz.prog 50 [rkK a, rkK b] w [] (fun v _ => v = I (rkF a b)) := by
  refine enter (n := 17) (args := [rkK a, rkK b]) [] [] Tryz.func50 rfl rfl rfl (HpOK.nil w) (by simp) ?_
  refine wc_seq ?_
  refine wc_plain [(0, .x true), (1, .x true), (2, .x true)] (by kernel_rfl) ?_
  refine ws_box rfl rfl rfl rfl ?_
  intro b2 hb2
  refine ws_box rfl rfl rfl rfl ?_
  intro b3 hb3
  refine ws_l rfl rfl rfl rfl (rd_assign rfl) ?_
  refine ws_nil ?_
  refine qe_then ?_
  refine wc_seq ?_
  refine wc_drawn mixedT _ (fun _ h => h) [(0, .r), (1, .r), (2, .r), (3, .r), (5, .r), (6, .r), (7, .r), (8, .r), (4, .x false), (9, .x true), (10, .x true), (11, .x true), (12, .x true)] (by kernel_rfl) ?_
  refine ws_r rfl rfl rfl rfl (rd_fieldAddr rfl) ?_
  refine ws_r rfl rfl rfl rfl (rd_load rfl) ?_
  refine ws_r rfl rfl rfl rfl (rd_fieldAddr rfl) ?_
  refine ws_r rfl rfl rfl rfl (rd_load rfl) ?_
  refine ws_r rfl rfl rfl rfl (rd_fieldAddr rfl) ?_
  refine ws_r rfl rfl rfl rfl (rd_load rfl) ?_
  refine ws_r rfl rfl rfl rfl (rd_fieldAddr rfl) ?_
  refine ws_r rfl rfl rfl rfl (rd_load rfl) ?_
  refine ws_callp rfl rfl rfl rfl rfl (En.go) (fun w hp hn ho => cmp_ret _ _ w) ?_
  refine ws_late rfl ?_
  refine ws_callp rfl rfl rfl rfl rfl (En.go) (fun w hp hn ho => idcmp_ret _ _ w) ?_
  refine ws_buildSlice rfl rfl rfl rfl ?_
  intro b15 hb15
  refine ws_callp rfl rfl rfl rfl rfl (En.go) (fun w hp hn ho => or_ret b15 [cmpF a.leaf b.leaf, cmpV a.id b.id] (by simp) w (hp.mono (by simp))) ?_
  refine ws_l rfl rfl rfl rfl (rd_assign rfl) ?_
  refine ws_nil ?_
  refine qe_then ?_
  refine wc_keep [(4, _)] rfl ?_
  refine wc_ret ?_
  refine qe_body _ (.inl rfl) (res1 rfl (RV.tmp rfl)) ?_
  exact ret_end fun w hp hn ho => rfl
set_option maxRecDepth 100000 in
set_option maxHeartbeats 1000000 in
theorem minpub_ret (v : Value) (φ : Heap) (l : List Pub) (hsrc : Src φ v 17 l.length (l.flatMap pubL)) (hlen : l.length < 1048576) (h0 : 0 < l.length) (w : World) (hφ : HpOK φ w) (hnd : (φ.map Prod.fst).Nodup) : Ret Tryz.prog 63 [v, .func (.func 48) #[] #[]] w [] (fun u _ => ∃ m, u = pubK m ∧ minOf pubLt l = some m) := by
  refine enter (n := 33) (args := [v, .func (.func 48) #[] #[]]) [] φ Tryz.func63 rfl rfl rfl hφ hnd ?_
  refine wc_seq ?_
  refine wc_plain [(0, .x true)] (by kernel_rfl) ?_
  refine ws_alloc rfl rfl rfl ?_
  intro b4 hb4
  refine ws_nil ?_
  refine qe_then ?_
  refine wc_seq ?_
  refine wc_seq ?_
  refine wc_plain [(0, .x true), (1, .x true), (2, .x true)] (by kernel_rfl) ?_
  refine ws_l rfl rfl rfl rfl (rd_move rfl) ?_
  refine ws_l rfl rfl rfl rfl (rd_lenS hsrc rfl Tryz.underlying110) ?_
  refine ws_l rfl rfl rfl rfl (rd_cmp_f rfl rfl rfl (by simp only [cmpP]; omega)) ?_
  refine ws_nil ?_
  refine qe_then ?_
  refine wc_false rfl ?_
  refine wc_skip ?_
  refine qe_then ?_
  refine wc_seq ?_
  refine wc_plain [(0, .x true), (1, .x true), (2, .x true), (3, .x true), (4, .x true)] (by kernel_rfl) ?_
  refine ws_l rfl rfl rfl rfl (rd_move rfl) ?_
  obtain ⟨bg, og, cg, csg, Eg, frg, rfl, hmg, hcg⟩ := Src.opened hsrc (by omega)
  have hmig : HM bg (.cells csg Eg frg) φ := ⟨hmg⟩
  obtain ⟨y, hy⟩ := at_ex (l := l) (j := 0) (by omega)
  have aty : AtP csg (og + 0 * 17) y := at_pub hcg hy
  refine ws_l rfl rfl rfl rfl (rd_index (og + 0 * 17) rfl rfl Tryz.underlying110 Tryz.sizeOf35 ⟨by omega, by omega⟩ (by simp)) ?_
  refine ws_l rfl rfl rfl rfl (rd_load rfl) ?_
  refine ws_alloc rfl rfl rfl ?_
  intro b5 hb5
  refine ws_store rfl rfl rfl rfl (by first | exact .inl (by assumption) | exact .inr (by simp)) (fun _ h _ => by first | (cases h; done) | exact List.mem_cons_of_mem _ h | exact List.mem_cons_of_mem _ (List.mem_cons_of_mem _ h) | (simp at h ⊢; simp [h])) ?_
  refine ws_nil ?_
  refine qe_then ?_
  refine wc_keep [(0, _), (1, _), (4, _), (5, _)] rfl ?_
  refine wc_seq ?_
  refine wc_seq ?_
  refine wc_plain [(0, .x true)] (by kernel_rfl) ?_
  refine ws_l rfl rfl rfl rfl (rd_assign rfl) ?_
  refine ws_nil ?_
  refine qe_then ?_
  refine wc_block ?_
  refine wc_loop (fun mz ac w1 => ∃ (j : Nat) (m : Pub), mz = l.length - j ∧ (1 ≤ j ∧ j ≤ l.length) ∧ (minOf pubLt (l.take j) = some m) ∧ St 33 w [] [(0, .slice (some ⟨bg, og, none⟩) l.length cg), (1, .func (.func 48) #[] #[]), (4, ptr b4), (5, ptr b5), (6, I j)] ((b5, .cells (pubC m) 35 (0, 0)) :: (b4, .cells (pubC pub0) 35 (0, 0)) :: φ) ac w1) _ (fun ac w1 hs => ⟨1, y, rfl, (by omega), (by rw [show (1 : Nat) = 0 + 1 from rfl, take_at hy]; rfl), st_sub hs _ rfl⟩) ?_
  rintro _ ac1 wl1 ⟨j, m, rfl, hj, hm, hs1⟩
  refine wc_at hs1 ?_
  refine wc_seq ?_
  refine wc_seq ?_
  refine wc_plain [(0, .x true), (1, .x true), (2, .x true), (3, .x true)] (by kernel_rfl) ?_
  refine ws_l rfl rfl rfl rfl (rd_move rfl) ?_
  refine ws_l rfl rfl rfl rfl (rd_move rfl) ?_
  refine ws_l rfl rfl rfl rfl (rd_lenS hsrc rfl Tryz.underlying110) ?_
  refine ws_lcmp rfl rfl rfl (rfl) (rfl) (rfl) ?_ ?_
  · intro h17
    refine ws_nil ?_
    refine qe_then ?_
    refine wc_true rfl ?_
    refine wc_skip ?_
    refine qe_then ?_
    refine wc_seq ?_
    refine wc_block ?_
    refine wc_seq ?_
    refine wc_drawn mixedT _ (fun _ h => h) [(0, .r), (1, .r), (2, .r), (3, .r), (4, .r), (5, .r), (6, .x true), (7, .x true)] (by kernel_rfl) ?_
    refine ws_r rfl rfl rfl rfl (rd_move rfl) ?_
    refine ws_r rfl rfl rfl rfl (rd_move rfl) ?_
    refine ws_r rfl rfl rfl rfl (rd_move rfl) ?_
    obtain ⟨x, hx⟩ := at_ex (l := l) (j := j) (by omega)
    have atx : AtP csg (og + j * 17) x := at_pub hcg hx
    refine ws_r rfl rfl rfl rfl (rd_index (og + j * 17) rfl rfl Tryz.underlying110 Tryz.sizeOf35 ⟨by omega, by omega⟩ (by simp)) ?_
    refine ws_r rfl rfl rfl rfl (rd_load rfl) ?_
    refine ws_r rfl rfl rfl rfl (rd_load rfl) ?_
    refine ws_late rfl ?_
    refine ws_callp rfl rfl rfl rfl rfl (En.go) (fun w hp hn ho => pcmp_ret x m w) ?_
    refine ws_lcmp rfl rfl rfl (rfl) (rfl) (rfl) ?_ ?_
    · intro h27
      refine ws_nil ?_
      refine qe_then ?_
      refine wc_true rfl ?_
      refine wc_plain [(0, .x true), (1, .x true), (2, .x true), (3, .x true), (4, .x true)] (by kernel_rfl) ?_
      refine ws_l rfl rfl rfl rfl (rd_move rfl) ?_
      refine ws_l rfl rfl rfl rfl (rd_move rfl) ?_
      refine ws_l rfl rfl rfl rfl (rd_index (og + j * 17) rfl rfl Tryz.underlying110 Tryz.sizeOf35 ⟨by omega, by omega⟩ (by simp)) ?_
      refine ws_l rfl rfl rfl rfl (rd_load rfl) ?_
      refine ws_store rfl rfl rfl rfl (by first | exact .inl (by assumption) | exact .inr (by simp)) (fun _ h _ => by first | (cases h; done) | exact List.mem_cons_of_mem _ h | exact List.mem_cons_of_mem _ (List.mem_cons_of_mem _ h) | (simp at h ⊢; simp [h])) ?_
      refine ws_nil ?_
      refine qe_block ?_
      refine qe_then ?_
      refine wc_plain [(0, .x true), (1, .x true), (2, .x true)] (by kernel_rfl) ?_
      refine ws_l rfl rfl rfl rfl (rd_move rfl) ?_
      refine ws_l rfl rfl rfl rfl (rd_arith (((j + 1 : Nat) : Nat) : Int) rfl rfl rfl (by rw [wrap_i64 _ (by omega) (by omega)]; omega)) ?_
      refine ws_l rfl rfl rfl rfl (rd_assign rfl) ?_
      refine ws_nil ?_
      exact qe_loop fun ac2 w2 hs2 => ⟨_, by (simp only [cmpP] at h17; omega), j + 1, x, rfl, (by simp only [cmpP] at h17; omega), (by rw [take_at hx, minOf_snoc, hm]; simp only [cmpP, num_lt] at h27; simp [pubLt, h27]), st_sub hs2 _ rfl⟩
    · intro h27
      refine ws_nil ?_
      refine qe_then ?_
      refine wc_false rfl ?_
      refine wc_skip ?_
      refine qe_block ?_
      refine qe_then ?_
      refine wc_plain [(0, .x true), (1, .x true), (2, .x true)] (by kernel_rfl) ?_
      refine ws_l rfl rfl rfl rfl (rd_move rfl) ?_
      refine ws_l rfl rfl rfl rfl (rd_arith (((j + 1 : Nat) : Nat) : Int) rfl rfl rfl (by rw [wrap_i64 _ (by omega) (by omega)]; omega)) ?_
      refine ws_l rfl rfl rfl rfl (rd_assign rfl) ?_
      refine ws_nil ?_
      exact qe_loop fun ac2 w2 hs2 => ⟨_, by (simp only [cmpP] at h17; omega), j + 1, m, rfl, (by simp only [cmpP] at h17; omega), (by rw [take_at hx, minOf_snoc, hm]; simp only [cmpP, num_lt] at h27; simp [pubLt, h27]), st_sub hs2 _ rfl⟩
  · intro h17
    refine ws_nil ?_
    refine qe_then ?_
    refine wc_false rfl ?_
    refine wc_exit ?_
    refine qe_then_exit ?_
    refine qe_then_exit ?_
    refine qe_block_exit ?_
    refine qe_then ?_
    refine wc_keep [(4, _), (5, _)] rfl ?_
    refine wc_seq ?_
    refine wc_plain [(0, .x true), (1, .x true)] (by kernel_rfl) ?_
    refine ws_l rfl rfl rfl rfl (rd_load rfl) ?_
    refine ws_store rfl rfl rfl rfl (by first | exact .inl (by assumption) | exact .inr (by simp)) (fun _ h _ => by first | (cases h; done) | exact List.mem_cons_of_mem _ h | exact List.mem_cons_of_mem _ (List.mem_cons_of_mem _ h) | (simp at h ⊢; simp [h])) ?_
    refine ws_nil ?_
    refine qe_then ?_
    refine wc_ret ?_
    refine qe_body _ (.inl rfl) (res1 rfl (RV.cell rfl)) ?_
    exact ret_end fun w hp hn ho => ⟨_, rfl, by rw [← hm, List.take_of_length_le (by simp only [cmpP] at h17; omega)]⟩
set_option maxRecDepth 100000 in
set_option maxHeartbeats 1000000 in
theorem smallpub_ret (v : Value) (φ : Heap) (l : List Pub) (hsrc : Src φ v 17 l.length (l.flatMap pubL)) (hlen : l.length < 1048576) (w : World) (hφ : HpOK φ w) (hnd : (φ.map Prod.fst).Nodup) : Ret Tryz.prog 47 [v, .func (.func 48) #[] #[]] w [] (fun u _ => u = .tuple #[pubK ((minOf pubLt l).getD pub0), .bool (minOf pubLt l).isSome]) := by
  refine enter (n := 14) (args := [v, .func (.func 48) #[] #[]]) [] φ Tryz.func47 rfl rfl rfl hφ hnd ?_
  refine wc_seq ?_
  refine wc_plain [(0, .x true), (1, .x true)] (by kernel_rfl) ?_
  refine ws_alloc rfl rfl rfl ?_
  intro b4 hb4
  refine ws_l rfl rfl rfl rfl (rd_assign rfl) ?_
  refine ws_nil ?_
  refine qe_then ?_
  refine wc_seq ?_
  refine wc_seq ?_
  refine wc_plain [(0, .x true), (1, .x true), (2, .x true)] (by kernel_rfl) ?_
  refine ws_l rfl rfl rfl rfl (rd_move rfl) ?_
  refine ws_l rfl rfl rfl rfl (rd_lenS hsrc rfl Tryz.underlying110) ?_
  by_cases h0 : l.length = 0
  ·
    refine ws_l rfl rfl rfl rfl (rd_cmp_t rfl rfl rfl (by simp only [cmpP]; omega)) ?_
    obtain rfl : l = [] := List.eq_nil_of_length_eq_zero h0
    refine ws_nil ?_
    refine qe_then ?_
    refine wc_true rfl ?_
    refine wc_seq ?_
    refine wc_plain [(0, .x true)] (by kernel_rfl) ?_
    refine ws_alloc rfl rfl rfl ?_
    intro b6 hb6
    refine ws_nil ?_
    refine qe_then ?_
    refine wc_seq ?_
    refine wc_plain [(0, .x true), (1, .x true), (2, .x true)] (by kernel_rfl) ?_
    refine ws_l rfl rfl rfl rfl (rd_load rfl) ?_
    refine ws_store rfl rfl rfl rfl (by first | exact .inl (by assumption) | exact .inr (by simp)) (fun _ h _ => by first | (cases h; done) | exact List.mem_cons_of_mem _ h | exact List.mem_cons_of_mem _ (List.mem_cons_of_mem _ h) | (simp at h ⊢; simp [h])) ?_
    refine ws_l rfl rfl rfl rfl (rd_assign rfl) ?_
    refine ws_nil ?_
    refine qe_then ?_
    refine wc_keep [(0, _), (1, _), (4, _), (5, _)] rfl ?_
    refine wc_ret ?_
    refine qe_then_ret ?_
    refine qe_body _ (.inl rfl) (res2 rfl (RV.cell rfl) (RV.tmp rfl)) ?_
    exact ret_end fun w hp hn ho => rfl
  ·
    refine ws_l rfl rfl rfl rfl (rd_cmp_f rfl rfl rfl (by simp only [cmpP]; omega)) ?_
    refine ws_nil ?_
    refine qe_then ?_
    refine wc_false rfl ?_
    refine wc_skip ?_
    refine qe_then ?_
    refine wc_seq ?_
    refine wc_plain [(0, .x true), (1, .x true), (2, .x true), (3, .x true), (4, .x true)] (by kernel_rfl) ?_
    refine ws_l rfl rfl rfl rfl (rd_move rfl) ?_
    refine ws_l rfl rfl rfl rfl (rd_move rfl) ?_
    refine ws_call rfl rfl rfl rfl rfl (En.go) (fun w hp hn ho => minpub_ret v φ l hsrc hlen (by omega) w (hp.mono SubH.mem) hnd) (fun _ h => by cases h) (fun hh q h => by first | (cases h; done) | exact hh q h) ?_
    rintro v13 wa wb hpo hon hon2 hp1 ⟨m, rfl, hmin⟩
    refine ⟨[], HpOK.nil _, by simp, by simp, ?_⟩
    refine ws_store rfl rfl rfl rfl (by first | exact .inl (by assumption) | exact .inr (by simp)) (fun _ h _ => by first | (cases h; done) | exact List.mem_cons_of_mem _ h | exact List.mem_cons_of_mem _ (List.mem_cons_of_mem _ h) | (simp at h ⊢; simp [h])) ?_
    refine ws_l rfl rfl rfl rfl (rd_assign rfl) ?_
    refine ws_nil ?_
    refine qe_then ?_
    refine wc_keep [(4, _), (5, _)] rfl ?_
    refine wc_ret ?_
    refine qe_body _ (.inl rfl) (res2 rfl (RV.cell rfl) (RV.tmp rfl)) ?_
    exact ret_end fun w hp hn ho => by rw [hmin]; rfl
set_option maxRecDepth 100000 in
set_option maxHeartbeats 1000000 in
theorem minrk_ret (v : Value) (φ : Heap) (l : List RK) (hsrc : Src φ v 84 l.length (l.flatMap rkL)) (hlen : l.length < 1048576) (h0 : 0 < l.length) (w : World) (hφ : HpOK φ w) (hnd : (φ.map Prod.fst).Nodup) : Ret Tryz.prog 66 [v, .func (.func 50) #[] #[]] w [] (fun u _ => ∃ m, u = rkK m ∧ minOf rkLt l = some m) := by
  refine enter (n := 33) (args := [v, .func (.func 50) #[] #[]]) [] φ Tryz.func66 rfl rfl rfl hφ hnd ?_
  refine wc_seq ?_
  refine wc_plain [(0, .x true)] (by kernel_rfl) ?_
  refine ws_alloc rfl rfl rfl ?_
  intro b4 hb4
  refine ws_nil ?_
  refine qe_then ?_
  refine wc_seq ?_
  refine wc_seq ?_
  refine wc_plain [(0, .x true), (1, .x true), (2, .x true)] (by kernel_rfl) ?_
  refine ws_l rfl rfl rfl rfl (rd_move rfl) ?_
  refine ws_l rfl rfl rfl rfl (rd_lenS hsrc rfl Tryz.underlying104) ?_
  refine ws_l rfl rfl rfl rfl (rd_cmp_f rfl rfl rfl (by simp only [cmpP]; omega)) ?_
  refine ws_nil ?_
  refine qe_then ?_
  refine wc_false rfl ?_
  refine wc_skip ?_
  refine qe_then ?_
  refine wc_seq ?_
  refine wc_plain [(0, .x true), (1, .x true), (2, .x true), (3, .x true), (4, .x true)] (by kernel_rfl) ?_
  refine ws_l rfl rfl rfl rfl (rd_move rfl) ?_
  obtain ⟨bg, og, cg, csg, Eg, frg, rfl, hmg, hcg⟩ := Src.opened hsrc (by omega)
  have hmig : HM bg (.cells csg Eg frg) φ := ⟨hmg⟩
  obtain ⟨y, hy⟩ := at_ex (l := l) (j := 0) (by omega)
  have aty : AtR csg (og + 0 * 84) y := at_rk hcg hy
  refine ws_l rfl rfl rfl rfl (rd_index (og + 0 * 84) rfl rfl Tryz.underlying104 Tryz.sizeOf98 ⟨by omega, by omega⟩ (by simp)) ?_
  refine ws_l rfl rfl rfl rfl (rd_load rfl) ?_
  refine ws_alloc rfl rfl rfl ?_
  intro b5 hb5
  refine ws_store rfl rfl rfl rfl (by first | exact .inl (by assumption) | exact .inr (by simp)) (fun _ h _ => by first | (cases h; done) | exact List.mem_cons_of_mem _ h | exact List.mem_cons_of_mem _ (List.mem_cons_of_mem _ h) | (simp at h ⊢; simp [h])) ?_
  refine ws_nil ?_
  refine qe_then ?_
  refine wc_keep [(0, _), (1, _), (4, _), (5, _)] rfl ?_
  refine wc_seq ?_
  refine wc_seq ?_
  refine wc_plain [(0, .x true)] (by kernel_rfl) ?_
  refine ws_l rfl rfl rfl rfl (rd_assign rfl) ?_
  refine ws_nil ?_
  refine qe_then ?_
  refine wc_block ?_
  refine wc_loop (fun mz ac w1 => ∃ (j : Nat) (m : RK), mz = l.length - j ∧ (1 ≤ j ∧ j ≤ l.length) ∧ (minOf rkLt (l.take j) = some m) ∧ St 33 w [] [(0, .slice (some ⟨bg, og, none⟩) l.length cg), (1, .func (.func 50) #[] #[]), (4, ptr b4), (5, ptr b5), (6, I j)] ((b5, .cells (rkC m) 98 (0, 0)) :: (b4, .cells (rkC rk0) 98 (0, 0)) :: φ) ac w1) _ (fun ac w1 hs => ⟨1, y, rfl, (by omega), (by rw [show (1 : Nat) = 0 + 1 from rfl, take_at hy]; rfl), st_sub hs _ rfl⟩) ?_
  rintro _ ac1 wl1 ⟨j, m, rfl, hj, hm, hs1⟩
  refine wc_at hs1 ?_
  refine wc_seq ?_
  refine wc_seq ?_
  refine wc_plain [(0, .x true), (1, .x true), (2, .x true), (3, .x true)] (by kernel_rfl) ?_
  refine ws_l rfl rfl rfl rfl (rd_move rfl) ?_
  refine ws_l rfl rfl rfl rfl (rd_move rfl) ?_
  refine ws_l rfl rfl rfl rfl (rd_lenS hsrc rfl Tryz.underlying104) ?_
  refine ws_lcmp rfl rfl rfl (rfl) (rfl) (rfl) ?_ ?_
  · intro h17
    refine ws_nil ?_
    refine qe_then ?_
    refine wc_true rfl ?_
    refine wc_skip ?_
    refine qe_then ?_
    refine wc_seq ?_
    refine wc_block ?_
    refine wc_seq ?_
    refine wc_drawn mixedT _ (fun _ h => h) [(0, .r), (1, .r), (2, .r), (3, .r), (4, .r), (5, .r), (6, .x true), (7, .x true)] (by kernel_rfl) ?_
    refine ws_r rfl rfl rfl rfl (rd_move rfl) ?_
    refine ws_r rfl rfl rfl rfl (rd_move rfl) ?_
    refine ws_r rfl rfl rfl rfl (rd_move rfl) ?_
    obtain ⟨x, hx⟩ := at_ex (l := l) (j := j) (by omega)
    have atx : AtR csg (og + j * 84) x := at_rk hcg hx
    refine ws_r rfl rfl rfl rfl (rd_index (og + j * 84) rfl rfl Tryz.underlying104 Tryz.sizeOf98 ⟨by omega, by omega⟩ (by simp)) ?_
    refine ws_r rfl rfl rfl rfl (rd_load rfl) ?_
    refine ws_r rfl rfl rfl rfl (rd_load rfl) ?_
    refine ws_late rfl ?_
    refine ws_callp rfl rfl rfl rfl rfl (En.go) (fun w hp hn ho => rcmp_ret x m w) ?_
    refine ws_lcmp rfl rfl rfl (rfl) (rfl) (rfl) ?_ ?_
    · intro h27
      refine ws_nil ?_
      refine qe_then ?_
      refine wc_true rfl ?_
      refine wc_plain [(0, .x true), (1, .x true), (2, .x true), (3, .x true), (4, .x true)] (by kernel_rfl) ?_
      refine ws_l rfl rfl rfl rfl (rd_move rfl) ?_
      refine ws_l rfl rfl rfl rfl (rd_move rfl) ?_
      refine ws_l rfl rfl rfl rfl (rd_index (og + j * 84) rfl rfl Tryz.underlying104 Tryz.sizeOf98 ⟨by omega, by omega⟩ (by simp)) ?_
      refine ws_l rfl rfl rfl rfl (rd_load rfl) ?_
      refine ws_store rfl rfl rfl rfl (by first | exact .inl (by assumption) | exact .inr (by simp)) (fun _ h _ => by first | (cases h; done) | exact List.mem_cons_of_mem _ h | exact List.mem_cons_of_mem _ (List.mem_cons_of_mem _ h) | (simp at h ⊢; simp [h])) ?_
      refine ws_nil ?_
      refine qe_block ?_
      refine qe_then ?_
      refine wc_plain [(0, .x true), (1, .x true), (2, .x true)] (by kernel_rfl) ?_
      refine ws_l rfl rfl rfl rfl (rd_move rfl) ?_
      refine ws_l rfl rfl rfl rfl (rd_arith (((j + 1 : Nat) : Nat) : Int) rfl rfl rfl (by rw [wrap_i64 _ (by omega) (by omega)]; omega)) ?_
      refine ws_l rfl rfl rfl rfl (rd_assign rfl) ?_
      refine ws_nil ?_
      exact qe_loop fun ac2 w2 hs2 => ⟨_, by (simp only [cmpP] at h17; omega), j + 1, x, rfl, (by simp only [cmpP] at h17; omega), (by rw [take_at hx, minOf_snoc, hm]; simp only [cmpP, num_lt] at h27; simp [rkLt, h27]), st_sub hs2 _ rfl⟩
    · intro h27
      refine ws_nil ?_
      refine qe_then ?_
      refine wc_false rfl ?_
      refine wc_skip ?_
      refine qe_block ?_
      refine qe_then ?_
      refine wc_plain [(0, .x true), (1, .x true), (2, .x true)] (by kernel_rfl) ?_
      refine ws_l rfl rfl rfl rfl (rd_move rfl) ?_
      refine ws_l rfl rfl rfl rfl (rd_arith (((j + 1 : Nat) : Nat) : Int) rfl rfl rfl (by rw [wrap_i64 _ (by omega) (by omega)]; omega)) ?_
      refine ws_l rfl rfl rfl rfl (rd_assign rfl) ?_
      refine ws_nil ?_
      exact qe_loop fun ac2 w2 hs2 => ⟨_, by (simp only [cmpP] at h17; omega), j + 1, m, rfl, (by simp only [cmpP] at h17; omega), (by rw [take_at hx, minOf_snoc, hm]; simp only [cmpP, num_lt] at h27; simp [rkLt, h27]), st_sub hs2 _ rfl⟩
  · intro h17
    refine ws_nil ?_
    refine qe_then ?_
    refine wc_false rfl ?_
    refine wc_exit ?_
    refine qe_then_exit ?_
    refine qe_then_exit ?_
    refine qe_block_exit ?_
    refine qe_then ?_
    refine wc_keep [(4, _), (5, _)] rfl ?_
    refine wc_seq ?_
    refine wc_plain [(0, .x true), (1, .x true)] (by kernel_rfl) ?_
    refine ws_l rfl rfl rfl rfl (rd_load rfl) ?_
    refine ws_store rfl rfl rfl rfl (by first | exact .inl (by assumption) | exact .inr (by simp)) (fun _ h _ => by first | (cases h; done) | exact List.mem_cons_of_mem _ h | exact List.mem_cons_of_mem _ (List.mem_cons_of_mem _ h) | (simp at h ⊢; simp [h])) ?_
    refine ws_nil ?_
    refine qe_then ?_
    refine wc_ret ?_
    refine qe_body _ (.inl rfl) (res1 rfl (RV.cell rfl)) ?_
    exact ret_end fun w hp hn ho => ⟨_, rfl, by rw [← hm, List.take_of_length_le (by simp only [cmpP] at h17; omega)]⟩
set_option maxRecDepth 100000 in
set_option maxHeartbeats 1000000 in
theorem smallrk_ret (v : Value) (φ : Heap) (l : List RK) (hsrc : Src φ v 84 l.length (l.flatMap rkL)) (hlen : l.length < 1048576) (w : World) (hφ : HpOK φ w) (hnd : (φ.map Prod.fst).Nodup) : Ret Tryz.prog 49 [v, .func (.func 50) #[] #[]] w [] (fun u _ => u = .tuple #[rkK ((minOf rkLt l).getD rk0), .bool (minOf rkLt l).isSome]) := by
  refine enter (n := 14) (args := [v, .func (.func 50) #[] #[]]) [] φ Tryz.func49 rfl rfl rfl hφ hnd ?_
  refine wc_seq ?_
  refine wc_plain [(0, .x true), (1, .x true)] (by kernel_rfl) ?_
  refine ws_alloc rfl rfl rfl ?_
  intro b4 hb4
  refine ws_l rfl rfl rfl rfl (rd_assign rfl) ?_
  refine ws_nil ?_
  refine qe_then ?_
  refine wc_seq ?_
  refine wc_seq ?_
  refine wc_plain [(0, .x true), (1, .x true), (2, .x true)] (by kernel_rfl) ?_
  refine ws_l rfl rfl rfl rfl (rd_move rfl) ?_
  refine ws_l rfl rfl rfl rfl (rd_lenS hsrc rfl Tryz.underlying104) ?_
  by_cases h0 : l.length = 0
  ·
    refine ws_l rfl rfl rfl rfl (rd_cmp_t rfl rfl rfl (by simp only [cmpP]; omega)) ?_
    obtain rfl : l = [] := List.eq_nil_of_length_eq_zero h0
    refine ws_nil ?_
    refine qe_then ?_
    refine wc_true rfl ?_
    refine wc_seq ?_
    refine wc_plain [(0, .x true)] (by kernel_rfl) ?_
    refine ws_alloc rfl rfl rfl ?_
    intro b6 hb6
    refine ws_nil ?_
    refine qe_then ?_
    refine wc_seq ?_
    refine wc_plain [(0, .x true), (1, .x true), (2, .x true)] (by kernel_rfl) ?_
    refine ws_l rfl rfl rfl rfl (rd_load rfl) ?_
    refine ws_store rfl rfl rfl rfl (by first | exact .inl (by assumption) | exact .inr (by simp)) (fun _ h _ => by first | (cases h; done) | exact List.mem_cons_of_mem _ h | exact List.mem_cons_of_mem _ (List.mem_cons_of_mem _ h) | (simp at h ⊢; simp [h])) ?_
    refine ws_l rfl rfl rfl rfl (rd_assign rfl) ?_
    refine ws_nil ?_
    refine qe_then ?_
    refine wc_keep [(0, _), (1, _), (4, _), (5, _)] rfl ?_
    refine wc_ret ?_
    refine qe_then_ret ?_
    refine qe_body _ (.inl rfl) (res2 rfl (RV.cell rfl) (RV.tmp rfl)) ?_
    exact ret_end fun w hp hn ho => rfl
  ·
    refine ws_l rfl rfl rfl rfl (rd_cmp_f rfl rfl rfl (by simp only [cmpP]; omega)) ?_
    refine ws_nil ?_
    refine qe_then ?_
    refine wc_false rfl ?_
    refine wc_skip ?_
    refine qe_then ?_
    refine wc_seq ?_
    refine wc_plain [(0, .x true), (1, .x true), (2, .x true), (3, .x true), (4, .x true)] (by kernel_rfl) ?_
    refine ws_l rfl rfl rfl rfl (rd_move rfl) ?_
    refine ws_l rfl rfl rfl rfl (rd_move rfl) ?_
    refine ws_call rfl rfl rfl rfl rfl (En.go) (fun w hp hn ho => minrk_ret v φ l hsrc hlen (by omega) w (hp.mono SubH.mem) hnd) (fun _ h => by cases h) (fun hh q h => by first | (cases h; done) | exact hh q h) ?_
    rintro v13 wa wb hpo hon hon2 hp1 ⟨m, rfl, hmin⟩
    refine ⟨[], HpOK.nil _, by simp, by simp, ?_⟩
    refine ws_store rfl rfl rfl rfl (by first | exact .inl (by assumption) | exact .inr (by simp)) (fun _ h _ => by first | (cases h; done) | exact List.mem_cons_of_mem _ h | exact List.mem_cons_of_mem _ (List.mem_cons_of_mem _ h) | (simp at h ⊢; simp [h])) ?_
    refine ws_l rfl rfl rfl rfl (rd_assign rfl) ?_
    refine ws_nil ?_
    refine qe_then ?_
    refine wc_keep [(4, _), (5, _)] rfl ?_
    refine wc_ret ?_
    refine qe_body _ (.inl rfl) (res2 rfl (RV.cell rfl) (RV.tmp rfl)) ?_
    exact ret_end fun w hp hn ho => by rw [hmin]; rfl

end Go.Proofs.YtheioljidangkaaGreat
