/- Walks: the encoding of a history, and the reference's. No conditions. -/
import Derived.Test.YtegjmmjjchpeoaaW15
namespace Go.Proofs.Ytegjmmjjchpeoaa
open Go Go.RowKit Go.Sx
set_option linter.unusedSimpArgs false
set_option linter.unusedVariables false

instance (a1 a2 a3 a4 : Int) : BuildsS Try.prog 64 4 [(0, .int .u8 a1), (1, .int .u8 a2), (2, .int .u8 a3), (3, .int .u8 a4)] 5 #[.int .u8 a1, .int .u8 a2, .int .u8 a3, .int .u8 a4] := BuildsS.four Try.underlying64 Try.sizeOf5 Try.zeroValue5 ⟨rfl⟩ ⟨rfl⟩ ⟨rfl⟩ ⟨rfl⟩
instance (v : Int) : BuildsS Try.prog 64 1 [(0, .int .u8 v)] 5 #[.int .u8 v] := BuildsS.one Try.underlying64 Try.sizeOf5 rfl rfl Try.zeroValue5 rfl rfl
instance : ZeroOf Try.prog 102 #[I 0, I 0] := ⟨_, Try.zeroValue102, rfl⟩
instance (a d : Int) : Builds Try.prog 102 [(0, I a), (1, I d)] #[I a, I d] := Builds.array (k := 1) inferInstance Try.underlying102 Try.sizeOf3 [(0, #[I a]), (1, #[I d])] rfl (by simp) rfl
theorem tdivN (k m : Nat) : ((k : Nat) : Int).tdiv ((m : Nat) : Int) = ((k / m : Nat) : Int) := rfl
theorem tmodN (k m : Nat) : ((k : Nat) : Int).tmod ((m : Nat) : Int) = ((k % m : Nat) : Int) := rfl
theorem wrap8 (k m : Nat) (h : UInt8.ofNat k = UInt8.ofNat m) : IntKind.u8.wrap ((k : Nat) : Int) = (((UInt8.ofNat m).toNat : Nat) : Int) := by rw [wrap_u8, h]
def segB (x : Ent) (j : Nat) : List UInt8 := ([x.arr, x.date].take j).flatMap b4
theorem segB_next (x : Ent) (j : Nat) (hj : j < 2) : segB x (j + 1) = segB x j ++ b4 (if j = 0 then x.arr else x.date) := by
  rcases (show j = 0 ∨ j = 1 by omega) with rfl | rfl <;> simp [segB]
theorem chk_bounds {x : Ent} (h : checkE x = 0) : (0 ≤ x.arr ∧ x.arr < 4294967296) ∧ (0 ≤ x.date ∧ x.date < 4294967296) ∧ (x.st = 0 ∨ x.st = 1) := by
  unfold checkE at h
  split at h
  · rename_i hm
    have h1 := minuteB_bounds hm.1
    have h2 := minuteB_bounds hm.2
    split at h
    · rename_i hs; exact ⟨⟨h1.1, by omega⟩, ⟨h2.1, by omega⟩, hs⟩
    · cases h
  · cases h
theorem encB_snoc (pre : List Ent) (x : Ent) (cut : Int) : encB (pre ++ [x]) cut = encB pre cut ++ x.id.toList ++ segB x 2 ++ [flagE x] := by
  simp [encB, encE, segB, List.flatMap_append]
theorem flag_wrap {x : Ent} (h : x.st = 0 ∨ x.st = 1) : IntKind.u8.wrap (if x.perm = true then x.st + 2 else x.st) = (((flagE x).toNat : Nat) : Int) := by
  rcases h with h | h <;> cases hp : x.perm <;> simp [flagE, h, hp, IntKind.wrap, IntKind.bits, IntKind.signed]
theorem by8_app (a b : List UInt8) : by8 (a ++ b) = by8 a ++ by8 b := List.map_append
theorem own_app {base m : Nat} {v : Value} {ν : Heap} {a b : List UInt8} (h : OwnR base 5 1 v ν (a.length + m) (by8 a ++ by8 b)) (hm : b.length = m) : OwnR base 5 1 v ν (a ++ b).length (by8 (a ++ b)) := by
  subst hm; rw [List.length_append, by8_app]; exact h
theorem flat8 (bs : List UInt8) : (bs.map u8v).flatMap (fun v => [v]) = by8 bs := by simp
set_option maxRecDepth 100000 in
set_option maxHeartbeats 1000000 in
theorem four_ret (base len : Nat) (vb : Value) (νb : Heap) (xs : List Value) (hown : OwnR base 5 1 vb νb len xs) (n : Nat) (hn : n < 4294967296) (hl : len < 100000000) (w : World) (hbase : base ≤ w.heap.size) (hη : HpOK νb w) : Ret Try.prog 61 [vb, I ((n : Nat) : Int)] w (νb.map Prod.fst) (fun v w' => ∃ ν' : Heap, OwnR base 5 1 v ν' (len + 4) (xs ++ by8 (b4 ((n : Nat) : Int))) ∧ HpOK ν' w' ∧ ∀ b ∈ ν'.map Prod.fst, w.heap.size ≤ b ∨ b ∈ νb.map Prod.fst) := by
  refine enter (n := 19) (args := [vb, I ((n : Nat) : Int)]) (νb.map Prod.fst) νb Try.func61 rfl rfl rfl hη hown.nd ?_
  refine wc_seq ?_
  refine wc_plain [(0, .x true)] (by kernel_rfl) ?_
  refine ws_l rfl rfl rfl rfl (rd_assign rfl) ?_
  refine ws_nil ?_
  refine qe_then ?_
  refine wc_seq ?_
  refine wc_plain [(0, .x true), (1, .x true), (2, .x true), (3, .x true), (4, .x true), (5, .x true), (6, .x true), (7, .x true), (8, .x true), (9, .x true), (10, .x true), (11, .x true), (12, .x true), (13, .x true), (14, .x true)] (by kernel_rfl) ?_
  refine ws_l rfl rfl rfl rfl (rd_move rfl) ?_
  refine ws_l rfl rfl rfl rfl (rd_move rfl) ?_
  refine ws_l rfl rfl rfl rfl (rd_shr (((n : Nat) : Int).fdiv (2 ^ 24)) rfl rfl (by decide) rfl) ?_
  refine ws_l rfl rfl rfl rfl (rd_conv rfl (run_conv_int (((UInt8.ofNat (n / 2 ^ 24)).toNat : Nat) : Int) Try.underlying3 Try.underlying5 (by have h := b4_i64 ((n : Nat) : Int) ⟨by omega, by omega⟩ 24; rw [Int.toNat_natCast] at h; exact h))) ?_
  refine ws_l rfl rfl rfl rfl (rd_move rfl) ?_
  refine ws_l rfl rfl rfl rfl (rd_shr (((n : Nat) : Int).fdiv (2 ^ 16)) rfl rfl (by decide) rfl) ?_
  refine ws_l rfl rfl rfl rfl (rd_conv rfl (run_conv_int (((UInt8.ofNat (n / 2 ^ 16)).toNat : Nat) : Int) Try.underlying3 Try.underlying5 (by have h := b4_i64 ((n : Nat) : Int) ⟨by omega, by omega⟩ 16; rw [Int.toNat_natCast] at h; exact h))) ?_
  refine ws_l rfl rfl rfl rfl (rd_move rfl) ?_
  refine ws_l rfl rfl rfl rfl (rd_shr (((n : Nat) : Int).fdiv (2 ^ 8)) rfl rfl (by decide) rfl) ?_
  refine ws_l rfl rfl rfl rfl (rd_conv rfl (run_conv_int (((UInt8.ofNat (n / 2 ^ 8)).toNat : Nat) : Int) Try.underlying3 Try.underlying5 (by have h := b4_i64 ((n : Nat) : Int) ⟨by omega, by omega⟩ 8; rw [Int.toNat_natCast] at h; exact h))) ?_
  refine ws_l rfl rfl rfl rfl (rd_move rfl) ?_
  refine ws_l rfl rfl rfl rfl (rd_conv rfl (run_conv_int (((UInt8.ofNat n).toNat : Nat) : Int) Try.underlying3 Try.underlying5 (wrap_u8 n))) ?_
  refine ws_buildSlice rfl rfl rfl rfl ?_
  intro b17 hb17
  refine ws_appendB rfl rfl rfl rfl rfl hown (by simp) (by simp [Value.oneCell']) hbase (fun b hb => .inr hb) (by simp only [maxLen]; omega) (by omega) (fun _ _ _ h => by first | (cases h; done) | skip) ?_
  intro v2 ν2 hown2 hf2
  refine ws_l rfl rfl rfl rfl (rd_assign rfl) ?_
  refine ws_nil ?_
  refine qe_then ?_
  refine wc_keep [(4, _)] rfl ?_
  refine wc_ret ?_
  refine qe_body _ (.inl rfl) (res1 rfl (RV.tmp rfl)) ?_
  exact ret_end fun w hp hn ho => ⟨ν2, hown2, hp.mono (fun q hq => by simp [hq]), hf2⟩
set_option maxRecDepth 100000 in
set_option maxHeartbeats 1000000 in
theorem four_ref (n : Nat) (hn : n < 4294967296) (w : World) : Ret Try.prog 62 [I ((n : Nat) : Int)] w [] (fun v w' => ∃ ν' : Heap, OwnR w.heap.size 5 1 v ν' 4 (by8 (b4 ((n : Nat) : Int))) ∧ HpOK ν' w') := by
  refine enter (n := 18) (args := [I ((n : Nat) : Int)]) [] [] Try.func62 rfl rfl rfl (HpOK.nil w) (by simp) ?_
  refine wc_seq ?_
  refine wc_plain [(0, .x true)] (by kernel_rfl) ?_
  refine ws_l rfl rfl rfl rfl (rd_assign rfl) ?_
  refine ws_nil ?_
  refine qe_then ?_
  refine wc_seq ?_
  refine wc_plain [(0, .x true), (1, .x true), (2, .x true), (3, .x true), (4, .x true), (5, .x true), (6, .x true), (7, .x true), (8, .x true), (9, .x true), (10, .x true), (11, .x true), (12, .x true), (13, .x true), (14, .x true), (15, .x true)] (by kernel_rfl) ?_
  refine ws_l rfl rfl rfl rfl (rd_move rfl) ?_
  refine ws_l rfl rfl rfl rfl (rd_quo ((n / 16777216 : Nat) : Int) rfl rfl (by decide) (by rw [show (16777216 : Int) = ((16777216 : Nat) : Int) from rfl, tdivN, wrap_i64 _ (by omega) (by omega)])) ?_
  refine ws_l rfl rfl rfl rfl (rd_conv rfl (run_conv_int (((UInt8.ofNat (n / 16777216)).toNat : Nat) : Int) Try.underlying3 Try.underlying5 (wrap8 _ _ rfl))) ?_
  refine ws_l rfl rfl rfl rfl (rd_move rfl) ?_
  refine ws_l rfl rfl rfl rfl (rd_quo ((n / 65536 : Nat) : Int) rfl rfl (by decide) (by rw [show (65536 : Int) = ((65536 : Nat) : Int) from rfl, tdivN, wrap_i64 _ (by omega) (by omega)])) ?_
  refine ws_l rfl rfl rfl rfl (rd_rem ((n / 65536 % 256 : Nat) : Int) rfl rfl (by decide) (tmodN _ 256)) ?_
  refine ws_l rfl rfl rfl rfl (rd_conv rfl (run_conv_int (((UInt8.ofNat (n / 65536)).toNat : Nat) : Int) Try.underlying3 Try.underlying5 (wrap8 _ _ (ofNat_mod _).symm))) ?_
  refine ws_l rfl rfl rfl rfl (rd_move rfl) ?_
  refine ws_l rfl rfl rfl rfl (rd_quo ((n / 256 : Nat) : Int) rfl rfl (by decide) (by rw [show (256 : Int) = ((256 : Nat) : Int) from rfl, tdivN, wrap_i64 _ (by omega) (by omega)])) ?_
  refine ws_l rfl rfl rfl rfl (rd_rem ((n / 256 % 256 : Nat) : Int) rfl rfl (by decide) (tmodN _ 256)) ?_
  refine ws_l rfl rfl rfl rfl (rd_conv rfl (run_conv_int (((UInt8.ofNat (n / 256)).toNat : Nat) : Int) Try.underlying3 Try.underlying5 (wrap8 _ _ (ofNat_mod _).symm))) ?_
  refine ws_l rfl rfl rfl rfl (rd_move rfl) ?_
  refine ws_l rfl rfl rfl rfl (rd_rem ((n % 256 : Nat) : Int) rfl rfl (by decide) (tmodN _ 256)) ?_
  refine ws_l rfl rfl rfl rfl (rd_conv rfl (run_conv_int (((UInt8.ofNat (n)).toNat : Nat) : Int) Try.underlying3 Try.underlying5 (wrap8 _ _ (ofNat_mod _).symm))) ?_
  refine ws_buildSlice rfl rfl rfl rfl ?_
  intro b17 hb17
  refine ws_l rfl rfl rfl rfl (rd_assign rfl) ?_
  refine ws_nil ?_
  refine qe_then ?_
  refine wc_keep [(2, _)] rfl ?_
  refine wc_ret ?_
  refine qe_body _ (.inl rfl) (res1 rfl (RV.tmp rfl)) ?_
  exact ret_end fun w hp hn ho => ⟨_, .inr ⟨b17, 4, _, rfl, rfl, hb17, Nat.le_refl _, by simp [maxLen], rfl, rfl, rfl⟩, hp⟩
theorem four_retz (base len : Nat) (vb : Value) (νb : Heap) (xs : List Value) (hown : OwnR base 5 1 vb νb len xs) (z : Int) (hz : 0 ≤ z ∧ z < 4294967296) (hl : len < 100000000) (w : World) (hbase : base ≤ w.heap.size) (hη : HpOK νb w) : Ret Try.prog 61 [vb, I z] w (νb.map Prod.fst) (fun v w' => ∃ ν' : Heap, OwnR base 5 1 v ν' (len + 4) (xs ++ by8 (b4 z)) ∧ HpOK ν' w' ∧ ∀ b ∈ ν'.map Prod.fst, w.heap.size ≤ b ∨ b ∈ νb.map Prod.fst) := by
  obtain ⟨n, rfl⟩ := Int.eq_ofNat_of_zero_le hz.1
  exact four_ret base len vb νb xs hown n (by omega) hl w hbase hη
theorem four_refz (z : Int) (hz : 0 ≤ z ∧ z < 4294967296) (w : World) : Ret Try.prog 62 [I z] w [] (fun v w' => ∃ ν' : Heap, OwnR w.heap.size 5 1 v ν' 4 (by8 (b4 z)) ∧ HpOK ν' w') := by
  obtain ⟨n, rfl⟩ := Int.eq_ofNat_of_zero_le hz.1
  exact four_ref n (by omega) w
set_option maxRecDepth 100000 in
set_option maxHeartbeats 2000000 in
theorem encode_ref (v : Value) (ν : Heap) (rows : List Ent) (hown0 : OwnR 0 24 36 v ν rows.length (rows.flatMap entL)) (hlen : rows.length < 1048576) (hlen2 : rows.length < 1000000) (hchk : ∀ y ∈ rows, checkE y = 0) (cut : Int) (hcut : 0 ≤ cut ∧ cut ≤ 105190559) (w : World) (hν : HpOK ν w) (hnd : (ν.map Prod.fst).Nodup) : Ret Try.prog 34 [v, I cut] w [] (fun u w' => ∃ ν' : Heap, OwnR w.heap.size 5 1 u ν' (encB rows cut).length (by8 (encB rows cut)) ∧ HpOK ν' w') := by
  refine enter (n := 57) (args := [v, I cut]) [] ν Try.func34 rfl rfl rfl hν hnd ?_
  refine wc_seq ?_
  refine wc_plain [(0, .x true)] (by kernel_rfl) ?_
  refine ws_l rfl rfl rfl rfl (rd_assign rfl) ?_
  refine ws_nil ?_
  refine qe_then ?_
  refine wc_seq ?_
  refine wc_plain [(0, .x true), (1, .x true), (2, .x true)] (by kernel_rfl) ?_
  refine ws_l rfl rfl rfl rfl (rd_move rfl) ?_
  refine ws_call rfl rfl rfl rfl rfl (En.go) (fun w hp hn ho => four_refz cut ⟨hcut.1, by omega⟩ w) (fun _ h => by cases h) (fun hh q h => by first | (cases h; done) | exact hh q h) ?_
  rintro v9 wa wb hpo hon hon2 hp1 ⟨νc, hownc, hνc⟩
  refine ⟨νc, hνc, hownc.nd, fun b hb => .inl (hownc.far b hb), ?_⟩
  replace hownc := hownc.mono hon.size
  refine ws_l rfl rfl rfl rfl (rd_assign rfl) ?_
  refine ws_nil ?_
  refine qe_then ?_
  refine wc_seq ?_
  refine wc_seq ?_
  refine wc_plain [(0, .x true)] (by kernel_rfl) ?_
  refine ws_l rfl rfl rfl rfl (rd_assign rfl) ?_
  refine ws_nil ?_
  refine qe_then ?_
  refine wc_block ?_
  refine wc_loop (fun mz ac w1 => ∃ (j : Nat) (v5 : Value) (ν5 : Heap), mz = rows.length - j ∧ (j ≤ rows.length) ∧ (OwnR w.heap.size 5 1 v5 ν5 (encB (rows.take j) cut).length (by8 (encB (rows.take j) cut))) ∧ St 57 w [] [(0, v), (1, I cut), (5, v5), (6, I j)] (ν5 ++ ν) ac w1) _ (fun ac w1 hs => ⟨0, v9, νc, rfl, (by omega), (by simpa [encB, b4_len] using hownc), st_sub hs _ rfl⟩) ?_
  rintro _ ac1 wl1 ⟨j, v5, ν5, rfl, hj, hown5, hs1⟩
  refine wc_at hs1 ?_
  refine wc_seq ?_
  refine wc_seq ?_
  refine wc_plain [(0, .x true), (1, .x true), (2, .x true), (3, .x true)] (by kernel_rfl) ?_
  refine ws_l rfl rfl rfl rfl (rd_move rfl) ?_
  refine ws_l rfl rfl rfl rfl (rd_move rfl) ?_
  refine ws_l rfl rfl rfl rfl (rd_lenO hown0 rfl Try.underlying36) ?_
  refine ws_lcmp rfl rfl rfl (rfl) (rfl) (rfl) ?_ ?_
  · intro h13
    refine ws_nil ?_
    refine qe_then ?_
    refine wc_true rfl ?_
    refine wc_skip ?_
    refine qe_then ?_
    refine wc_seq ?_
    refine wc_block ?_
    refine wc_seq ?_
    refine wc_plain [(0, .x true), (1, .x true), (2, .x true), (3, .x true), (4, .x true), (5, .x true)] (by kernel_rfl) ?_
    refine ws_l rfl rfl rfl rfl (rd_move rfl) ?_
    refine ws_l rfl rfl rfl rfl (rd_move rfl) ?_
    obtain ⟨gr, capr, curr, rfl, rfl, hgr, hcapr, hcurr⟩ := OwnR.opened hown0 (by omega)
    obtain ⟨x, hx⟩ := at_ex (l := rows) (j := j) (by omega)
    have atx := at_row hcurr hx
    refine ws_l rfl rfl rfl rfl (rd_ix rfl rfl Try.underlying36 Try.sizeOf24 (by omega)) ?_
    have hcx := chk_bounds (hchk x (List.mem_of_getElem? hx))
    have hbx : BytesAt curr (j * 36) 32 x.id.toList := ⟨by simp, fun i y hi => by have hi2 := (List.getElem?_eq_some_iff.1 hi).1; rw [atx.go i (by simp at hi2; omega), ← Nat.zero_add i]; exact (inferInstance : BytesAt (entC x) 0 32 x.id.toList).go i y hi⟩
    have hlen5 := encB_len (rows.take j) cut
    have htl : (rows.take j).length ≤ j := by simp; omega
    refine ws_l rfl rfl rfl rfl (rd_fieldAddr rfl) ?_
    refine ws_l rfl rfl rfl rfl (rd_load rfl) ?_
    refine ws_l rfl rfl rfl rfl (rd_assign rfl) ?_
    refine ws_nil ?_
    refine qe_then ?_
    refine wc_seq ?_
    refine wc_seq ?_
    refine wc_plain [(0, .x true), (1, .x true), (2, .x true), (3, .x true), (4, .x true)] (by kernel_rfl) ?_
    refine ws_l rfl rfl rfl rfl (rd_move rfl) ?_
    refine ws_l rfl rfl rfl rfl (rd_move rfl) ?_
    refine ws_l rfl rfl rfl rfl (rd_ix rfl rfl Try.underlying36 Try.sizeOf24 (by omega)) ?_
    refine ws_l rfl rfl rfl rfl (rd_fieldAddr rfl) ?_
    refine ws_lb _ rfl rfl rfl rfl (rd_load rfl) ?_ ?_
    · intro hpm
      refine ws_nil ?_
      refine qe_then ?_
      refine wc_true rfl ?_
      refine wc_plain [(0, .x true), (1, .x true), (2, .x true)] (by kernel_rfl) ?_
      refine ws_l rfl rfl rfl rfl (rd_move rfl) ?_
      refine ws_l rfl rfl rfl rfl (rd_arith (x.st + 2) rfl rfl rfl (by rw [wrap_i64 _ (by omega) (by omega)])) ?_
      refine ws_l rfl rfl rfl rfl (rd_assign rfl) ?_
      refine ws_nil ?_
      refine qe_then ?_
      refine wc_seq ?_
      refine wc_plain [(0, .x true), (1, .x true), (2, .x true), (3, .x true), (4, .x true), (5, .x true), (6, .x true), (7, .x true)] (by kernel_rfl) ?_
      refine ws_l rfl rfl rfl rfl (rd_move rfl) ?_
      refine ws_l rfl rfl rfl rfl (rd_move rfl) ?_
      refine ws_l rfl rfl rfl rfl (rd_move rfl) ?_
      refine ws_l rfl rfl rfl rfl (rd_ix rfl rfl Try.underlying36 Try.sizeOf24 (by omega)) ?_
      refine ws_l rfl rfl rfl rfl (rd_fieldAddr rfl) ?_
      refine ws_l rfl rfl rfl rfl (rd_sliceArr rfl Try.underlying22 rfl Try.sizeOf5) ?_
      refine ws_appendS rfl rfl rfl rfl rfl hown5 (Src.bytes (bs := x.id.toList) (E := 24) (fr := (0, 0)) hbx (by simp)) (by8_one _) (by simp only [maxLen, List.length_append, Vector.length_toList, b4_len]; omega) (by (try simp only [List.length_append, Vector.length_toList, b4_len]); omega) (fun _ _ _ h => by first | (cases h; done) | skip) ?_
      intro va νva hownva
      replace hownva := own_app (a := encB (rows.take j) cut) (b := x.id.toList) hownva (by simp [b4_len])
      refine ws_l rfl rfl rfl rfl (rd_assign rfl) ?_
      refine ws_nil ?_
      refine qe_then ?_
      refine wc_seq ?_
      refine wc_plain [(0, .x true), (1, .x true), (2, .x true), (3, .x true), (4, .x true), (5, .x true), (6, .x true), (7, .x true), (8, .x true)] (by kernel_rfl) ?_
      refine ws_l rfl rfl rfl rfl (rd_move rfl) ?_
      refine ws_l rfl rfl rfl rfl (rd_move rfl) ?_
      refine ws_l rfl rfl rfl rfl (rd_move rfl) ?_
      refine ws_l rfl rfl rfl rfl (rd_ix rfl rfl Try.underlying36 Try.sizeOf24 (by omega)) ?_
      refine ws_l rfl rfl rfl rfl (rd_fieldAddr rfl) ?_
      refine ws_l rfl rfl rfl rfl (rd_load rfl) ?_
      refine ws_call rfl rfl rfl rfl rfl (En.go) (fun w hp hn ho => four_refz x.arr hcx.1 w) (fun _ h => by cases h) (fun hh q h => by first | (cases h; done) | exact hh q h) ?_
      rintro v41 wa wb hpo hon hon2 hp1 ⟨νd, hownd, hνd⟩
      refine ⟨νd, hνd, hownd.nd, fun b hb => .inl (hownd.far b hb), ?_⟩
      replace hownd := hownd.mono hon.size
      refine ws_appendS rfl rfl rfl rfl rfl hownva (hownd.src.mono (fun _ h => by simp at h ⊢; simp [h])) (by8_one _) (by simp only [maxLen, List.length_append, Vector.length_toList, b4_len]; omega) (by (try simp only [List.length_append, Vector.length_toList, b4_len]); omega) (fun _ _ _ h => by first | (cases h; done) | skip) ?_
      intro vc νvc hownvc
      replace hownvc := own_app (a := encB (rows.take j) cut ++ x.id.toList) (b := b4 x.arr) hownvc (by simp [b4_len])
      refine ws_l rfl rfl rfl rfl (rd_assign rfl) ?_
      refine ws_nil ?_
      refine qe_then ?_
      refine wc_seq ?_
      refine wc_plain [(0, .x true), (1, .x true), (2, .x true), (3, .x true), (4, .x true), (5, .x true), (6, .x true), (7, .x true), (8, .x true)] (by kernel_rfl) ?_
      refine ws_l rfl rfl rfl rfl (rd_move rfl) ?_
      refine ws_l rfl rfl rfl rfl (rd_move rfl) ?_
      refine ws_l rfl rfl rfl rfl (rd_move rfl) ?_
      refine ws_l rfl rfl rfl rfl (rd_ix rfl rfl Try.underlying36 Try.sizeOf24 (by omega)) ?_
      refine ws_l rfl rfl rfl rfl (rd_fieldAddr rfl) ?_
      refine ws_l rfl rfl rfl rfl (rd_load rfl) ?_
      refine ws_call rfl rfl rfl rfl rfl (En.go) (fun w hp hn ho => four_refz x.date hcx.2.1 w) (fun _ h => by cases h) (fun hh q h => by first | (cases h; done) | exact hh q h) ?_
      rintro v49 wa wb hpo hon hon2 hp1 ⟨νe, howne, hνe⟩
      refine ⟨νe, hνe, howne.nd, fun b hb => .inl (howne.far b hb), ?_⟩
      replace howne := howne.mono hon.size
      refine ws_appendS rfl rfl rfl rfl rfl hownvc (howne.src.mono (fun _ h => by simp at h ⊢; simp [h])) (by8_one _) (by simp only [maxLen, List.length_append, Vector.length_toList, b4_len]; omega) (by (try simp only [List.length_append, Vector.length_toList, b4_len]); omega) (fun _ _ _ h => by first | (cases h; done) | skip) ?_
      intro ve νve hownve
      replace hownve := own_app (a := encB (rows.take j) cut ++ x.id.toList ++ b4 x.arr) (b := b4 x.date) hownve (by simp [b4_len])
      refine ws_l rfl rfl rfl rfl (rd_assign rfl) ?_
      refine ws_nil ?_
      refine qe_then ?_
      refine wc_plain [(0, .x true), (1, .x true), (2, .x true), (3, .x true), (4, .x true), (5, .x true)] (by kernel_rfl) ?_
      refine ws_l rfl rfl rfl rfl (rd_move rfl) ?_
      refine ws_l rfl rfl rfl rfl (rd_move rfl) ?_
      refine ws_l rfl rfl rfl rfl (rd_conv rfl (run_conv_int (((flagE x).toNat : Nat) : Int) Try.underlying3 Try.underlying5 (by have h := flag_wrap hcx.2.2; rw [hpm] at h; simpa using h))) ?_
      refine ws_buildSlice rfl rfl rfl rfl ?_
      intro b54 hb54
      refine ws_append rfl rfl rfl rfl rfl hownve (by simp) (by simp [Value.oneCell']) (by simp only [maxLen, List.length_append, Vector.length_toList, b4_len]; omega) (by (try simp only [List.length_append, Vector.length_toList, b4_len]); omega) (fun _ _ _ h => by first | (cases h; done) | skip) ?_
      intro vf νf hownf
      replace hownf := own_app (a := encB (rows.take j) cut ++ x.id.toList ++ b4 x.arr ++ b4 x.date) (b := [flagE x]) hownf rfl
      refine ws_l rfl rfl rfl rfl (rd_assign rfl) ?_
      refine ws_nil ?_
      refine qe_block ?_
      refine qe_then ?_
      refine wc_plain [(0, .x true), (1, .x true), (2, .x true)] (by kernel_rfl) ?_
      refine ws_l rfl rfl rfl rfl (rd_move rfl) ?_
      refine ws_l rfl rfl rfl rfl (rd_arith (((j + 1 : Nat) : Int)) rfl rfl rfl (by rw [wrap_i64 _ (by omega) (by omega)]; omega)) ?_
      refine ws_l rfl rfl rfl rfl (rd_assign rfl) ?_
      refine ws_nil ?_
      exact qe_loop fun ac2 w2 hs2 => ⟨_, by omega, j + 1, vf, νf, rfl, (by omega), (by have e : encB (rows.take (j + 1)) cut = encB (rows.take j) cut ++ x.id.toList ++ b4 x.arr ++ b4 x.date ++ [flagE x] := (by rw [take_at hx, encB_snoc]; simp [segB]); rw [e]; exact hownf), st_sub hs2 _ rfl⟩
    · intro hpm
      refine ws_nil ?_
      refine qe_then ?_
      refine wc_false rfl ?_
      refine wc_skip ?_
      refine qe_then ?_
      refine wc_seq ?_
      refine wc_plain [(0, .x true), (1, .x true), (2, .x true), (3, .x true), (4, .x true), (5, .x true), (6, .x true), (7, .x true)] (by kernel_rfl) ?_
      refine ws_l rfl rfl rfl rfl (rd_move rfl) ?_
      refine ws_l rfl rfl rfl rfl (rd_move rfl) ?_
      refine ws_l rfl rfl rfl rfl (rd_move rfl) ?_
      refine ws_l rfl rfl rfl rfl (rd_ix rfl rfl Try.underlying36 Try.sizeOf24 (by omega)) ?_
      refine ws_l rfl rfl rfl rfl (rd_fieldAddr rfl) ?_
      refine ws_l rfl rfl rfl rfl (rd_sliceArr rfl Try.underlying22 rfl Try.sizeOf5) ?_
      refine ws_appendS rfl rfl rfl rfl rfl hown5 (Src.bytes (bs := x.id.toList) (E := 24) (fr := (0, 0)) hbx (by simp)) (by8_one _) (by simp only [maxLen, List.length_append, Vector.length_toList, b4_len]; omega) (by (try simp only [List.length_append, Vector.length_toList, b4_len]); omega) (fun _ _ _ h => by first | (cases h; done) | skip) ?_
      intro va νva hownva
      replace hownva := own_app (a := encB (rows.take j) cut) (b := x.id.toList) hownva (by simp [b4_len])
      refine ws_l rfl rfl rfl rfl (rd_assign rfl) ?_
      refine ws_nil ?_
      refine qe_then ?_
      refine wc_seq ?_
      refine wc_plain [(0, .x true), (1, .x true), (2, .x true), (3, .x true), (4, .x true), (5, .x true), (6, .x true), (7, .x true), (8, .x true)] (by kernel_rfl) ?_
      refine ws_l rfl rfl rfl rfl (rd_move rfl) ?_
      refine ws_l rfl rfl rfl rfl (rd_move rfl) ?_
      refine ws_l rfl rfl rfl rfl (rd_move rfl) ?_
      refine ws_l rfl rfl rfl rfl (rd_ix rfl rfl Try.underlying36 Try.sizeOf24 (by omega)) ?_
      refine ws_l rfl rfl rfl rfl (rd_fieldAddr rfl) ?_
      refine ws_l rfl rfl rfl rfl (rd_load rfl) ?_
      refine ws_call rfl rfl rfl rfl rfl (En.go) (fun w hp hn ho => four_refz x.arr hcx.1 w) (fun _ h => by cases h) (fun hh q h => by first | (cases h; done) | exact hh q h) ?_
      rintro v41 wa wb hpo hon hon2 hp1 ⟨νd, hownd, hνd⟩
      refine ⟨νd, hνd, hownd.nd, fun b hb => .inl (hownd.far b hb), ?_⟩
      replace hownd := hownd.mono hon.size
      refine ws_appendS rfl rfl rfl rfl rfl hownva (hownd.src.mono (fun _ h => by simp at h ⊢; simp [h])) (by8_one _) (by simp only [maxLen, List.length_append, Vector.length_toList, b4_len]; omega) (by (try simp only [List.length_append, Vector.length_toList, b4_len]); omega) (fun _ _ _ h => by first | (cases h; done) | skip) ?_
      intro vc νvc hownvc
      replace hownvc := own_app (a := encB (rows.take j) cut ++ x.id.toList) (b := b4 x.arr) hownvc (by simp [b4_len])
      refine ws_l rfl rfl rfl rfl (rd_assign rfl) ?_
      refine ws_nil ?_
      refine qe_then ?_
      refine wc_seq ?_
      refine wc_plain [(0, .x true), (1, .x true), (2, .x true), (3, .x true), (4, .x true), (5, .x true), (6, .x true), (7, .x true), (8, .x true)] (by kernel_rfl) ?_
      refine ws_l rfl rfl rfl rfl (rd_move rfl) ?_
      refine ws_l rfl rfl rfl rfl (rd_move rfl) ?_
      refine ws_l rfl rfl rfl rfl (rd_move rfl) ?_
      refine ws_l rfl rfl rfl rfl (rd_ix rfl rfl Try.underlying36 Try.sizeOf24 (by omega)) ?_
      refine ws_l rfl rfl rfl rfl (rd_fieldAddr rfl) ?_
      refine ws_l rfl rfl rfl rfl (rd_load rfl) ?_
      refine ws_call rfl rfl rfl rfl rfl (En.go) (fun w hp hn ho => four_refz x.date hcx.2.1 w) (fun _ h => by cases h) (fun hh q h => by first | (cases h; done) | exact hh q h) ?_
      rintro v49 wa wb hpo hon hon2 hp1 ⟨νe, howne, hνe⟩
      refine ⟨νe, hνe, howne.nd, fun b hb => .inl (howne.far b hb), ?_⟩
      replace howne := howne.mono hon.size
      refine ws_appendS rfl rfl rfl rfl rfl hownvc (howne.src.mono (fun _ h => by simp at h ⊢; simp [h])) (by8_one _) (by simp only [maxLen, List.length_append, Vector.length_toList, b4_len]; omega) (by (try simp only [List.length_append, Vector.length_toList, b4_len]); omega) (fun _ _ _ h => by first | (cases h; done) | skip) ?_
      intro ve νve hownve
      replace hownve := own_app (a := encB (rows.take j) cut ++ x.id.toList ++ b4 x.arr) (b := b4 x.date) hownve (by simp [b4_len])
      refine ws_l rfl rfl rfl rfl (rd_assign rfl) ?_
      refine ws_nil ?_
      refine qe_then ?_
      refine wc_plain [(0, .x true), (1, .x true), (2, .x true), (3, .x true), (4, .x true), (5, .x true)] (by kernel_rfl) ?_
      refine ws_l rfl rfl rfl rfl (rd_move rfl) ?_
      refine ws_l rfl rfl rfl rfl (rd_move rfl) ?_
      refine ws_l rfl rfl rfl rfl (rd_conv rfl (run_conv_int (((flagE x).toNat : Nat) : Int) Try.underlying3 Try.underlying5 (by have h := flag_wrap hcx.2.2; rw [hpm] at h; simpa using h))) ?_
      refine ws_buildSlice rfl rfl rfl rfl ?_
      intro b54 hb54
      refine ws_append rfl rfl rfl rfl rfl hownve (by simp) (by simp [Value.oneCell']) (by simp only [maxLen, List.length_append, Vector.length_toList, b4_len]; omega) (by (try simp only [List.length_append, Vector.length_toList, b4_len]); omega) (fun _ _ _ h => by first | (cases h; done) | skip) ?_
      intro vf νf hownf
      replace hownf := own_app (a := encB (rows.take j) cut ++ x.id.toList ++ b4 x.arr ++ b4 x.date) (b := [flagE x]) hownf rfl
      refine ws_l rfl rfl rfl rfl (rd_assign rfl) ?_
      refine ws_nil ?_
      refine qe_block ?_
      refine qe_then ?_
      refine wc_plain [(0, .x true), (1, .x true), (2, .x true)] (by kernel_rfl) ?_
      refine ws_l rfl rfl rfl rfl (rd_move rfl) ?_
      refine ws_l rfl rfl rfl rfl (rd_arith (((j + 1 : Nat) : Int)) rfl rfl rfl (by rw [wrap_i64 _ (by omega) (by omega)]; omega)) ?_
      refine ws_l rfl rfl rfl rfl (rd_assign rfl) ?_
      refine ws_nil ?_
      exact qe_loop fun ac2 w2 hs2 => ⟨_, by omega, j + 1, vf, νf, rfl, (by omega), (by have e : encB (rows.take (j + 1)) cut = encB (rows.take j) cut ++ x.id.toList ++ b4 x.arr ++ b4 x.date ++ [flagE x] := (by rw [take_at hx, encB_snoc]; simp [segB]); rw [e]; exact hownf), st_sub hs2 _ rfl⟩
  · intro h13
    refine ws_nil ?_
    refine qe_then ?_
    refine wc_false rfl ?_
    refine wc_exit ?_
    refine qe_then_exit ?_
    refine qe_then_exit ?_
    refine qe_block_exit ?_
    refine qe_then ?_
    refine wc_keep [(5, _)] rfl ?_
    refine wc_seq ?_
    refine wc_plain [(0, .x true), (1, .x true)] (by kernel_rfl) ?_
    refine ws_l rfl rfl rfl rfl (rd_move rfl) ?_
    refine ws_l rfl rfl rfl rfl (rd_assign rfl) ?_
    refine ws_nil ?_
    refine qe_then ?_
    refine wc_ret ?_
    refine qe_body _ (.inl rfl) (res1 rfl (RV.tmp rfl)) ?_
    exact ret_end fun w hp hn ho => ⟨ν5, by rw [List.take_of_length_le (by omega)] at hown5; exact hown5, hp.mono (fun _ h => List.mem_append_left _ h)⟩
set_option maxRecDepth 100000 in
set_option maxHeartbeats 4000000 in
theorem encode_ret (p m : Nat) (cut : Int) (es : Array MapEntry) (clock : Nat) (L : HMap) (hL : MapIs idK entK es clock L) (hne : p ≠ m) (hlen : L.length < 1000000) (rows : List Ent) (hrel : Rel L rows) (hchk : ∀ y ∈ rows, checkE y = 0) (hcut : 0 ≤ cut ∧ cut ≤ 105190559) (w : World) (hη : HpOK (hist p m cut es clock) w) : Ret Try.prog 33 [ptr p] w [] (fun v w' => ∃ ν : Heap, OwnR w.heap.size 5 1 v ν (encB rows cut).length (by8 (encB rows cut)) ∧ HpOK ν w') := by
  obtain ⟨base, hbase⟩ : ∃ base, base = w.heap.size := ⟨_, rfl⟩
  rw [← hbase]
  refine enterM (n := 46) (args := [ptr p]) [] (hist p m cut es clock) Try.func33 rfl rfl rfl hη (by simp [hne]) ?_
  refine wc_seq ?_
  refine wc_plain [(0, .x true)] (by kernel_rfl) ?_
  refine ws_l rfl rfl rfl rfl (rd_assign rfl) ?_
  refine ws_nil ?_
  refine qe_then ?_
  refine wc_seq ?_
  refine wc_seq ?_
  refine wc_plain [(0, .x true), (1, .x true)] (by kernel_rfl) ?_
  refine ws_l rfl rfl rfl rfl (rd_move rfl) ?_
  refine ws_l rfl rfl rfl rfl (rd_ptr_nil rfl rfl Try.underlying35 rfl) ?_
  refine ws_nil ?_
  refine qe_then ?_
  refine wc_false rfl ?_
  refine wc_skip ?_
  refine qe_then ?_
  refine wc_seq ?_
  refine wc_plain [(0, .x true), (1, .x true), (2, .x true), (3, .x true), (4, .x true), (5, .x true), (6, .x true)] (by kernel_rfl) ?_
  refine ws_l rfl rfl rfl rfl (rd_move rfl) ?_
  refine ws_l rfl rfl rfl rfl (rd_nil rfl) ?_
  refine ws_l rfl rfl rfl rfl (rd_fieldAddr rfl) ?_
  refine ws_l rfl rfl rfl rfl (rd_load rfl) ?_
  refine ws_call (S' := []) rfl rfl rfl rfl rfl (En.go) (fun w hp hn ho => four_retz base 0 _ [] [] (OwnR.nil _ _ _) cut ⟨hcut.1, by omega⟩ (by omega) w (by have := ho.size; omega) (HpOK.nil w)) (fun _ h => by cases h) (fun hh q h => by first | (cases h; done) | exact hh q h) ?_
  rintro v14 wa wb hpo hon hon2 hp1 ⟨ν14, hown14, hν14, hf14⟩
  refine ⟨ν14, hν14, hown14.nd, fun b hb => .inl ((hf14 b hb).elim id (fun h => by simp at h)), ?_⟩
  have hoc14 : OneC v14 := hown14.oneC
  refine ws_alloc rfl rfl rfl ?_
  intro b3 hb3
  refine ws_store rfl rfl rfl rfl (by first | exact .inl (by assumption) | exact .inr (by simp)) (fun _ h _ => by first | (cases h; done) | exact List.mem_cons_of_mem _ h | exact List.mem_cons_of_mem _ (List.mem_cons_of_mem _ h) | (simp at h ⊢; simp [h])) ?_
  refine ws_nil ?_
  refine qe_then ?_
  refine wc_keep [(0, _), (2, _), (3, _)] rfl ?_
  refine wc_seq ?_
  refine wc_seq ?_
  refine wc_plain [(0, .x true), (1, .x true)] (by kernel_rfl) ?_
  refine ws_l rfl rfl rfl rfl (rd_move rfl) ?_
  refine ws_call rfl rfl rfl rfl rfl (En.go) (fun w hp hn ho => all_ret _ w) (fun _ h => by cases h) (fun hh q h => by first | (cases h; done) | exact hh q h) ?_
  rintro v16 wa wb hpo hon hon2 hp1 ⟨c, rfl, hc0, hc⟩
  refine ⟨[(c, _)], hc, by simp, fun b hb => .inl (by simp at hb; subst hb; exact hc0), ?_⟩
  replace hc0 := Nat.le_trans hon.size hc0
  simp only [List.cons_append, List.nil_append]
  refine ws_nil ?_
  refine qe_then ?_
  refine wc_block ?_
  refine wc_range ((b3, Obj.cells #[v14] 64 (0, 0)) :: ν14) ((c, Obj.cells #[ptr p] 35 (0, 0)) :: hist p m cut es clock) (fun pre ν => ∃ vo νo, ν = (b3, Obj.cells #[vo] 64 (0, 0)) :: νo ∧ OwnR base 5 1 vo νo (encB pre cut).length (by8 (encB pre cut))) (fun _ _ _ => False) rfl (En.go) rfl rfl (fun b hb => .inl (by simp only [List.map_cons, List.mem_cons] at hb; rcases hb with rfl | hb; exact hb3; have := hown14.far b hb; omega)) ⟨_, _, rfl, by simpa [encB, b4_len] using hown14⟩ (all1_hist p m cut es clock L hL hne (by omega) rows hrel c) (fun ζ hζ => ⟨hζ _ (by simp), fun q hq => hζ q (by simp at hq ⊢; rcases hq with h | h <;> simp [h])⟩) ?_ ?_ ?_
  · intro mk D lp pre x rest νr wr hrec hxs hJr hfr hw1
    obtain ⟨vo, νo, rfl, hown⟩ := hJr
    have hpl : pre.length < rows.length := by rw [hxs]; simp
    have hrl := hrel.len
    have hcx := chk_bounds (hchk x (by rw [hxs]; simp))
    have hel := encB_len pre cut
    refine wc_eqh (η' := (lp, mk .ready none) :: (D, dblk) :: (b3, .cells #[vo] 64 (0, 0)) :: (νo ++ ((c, Obj.cells #[ptr p] 35 (0, 0)) :: hist p m cut es clock))) rfl ?_
    refine wc_plain [(0, .x true), (1, .x true)] (by kernel_rfl) ?_
    refine ws_alloc rfl rfl rfl ?_
    intro b4 hb4
    refine ws_store rfl rfl rfl rfl (by first | exact .inl (by assumption) | exact .inr (by simp)) (fun _ h _ => by first | (cases h; done) | exact List.mem_cons_of_mem _ h | exact List.mem_cons_of_mem _ (List.mem_cons_of_mem _ h) | (simp at h ⊢; simp [h])) ?_
    refine ws_nil ?_
    refine qe_begin hrec (.inr (by simp)) ?_
    refine wc_block ?_
    refine wc_seq ?_
    refine wc_drawn mixedT _ (fun _ h => h) [(0, .r), (1, .r), (2, .r), (3, .x true), (4, .x true)] (by kernel_rfl) ?_
    refine ws_r rfl rfl rfl rfl (rd_load rfl) ?_
    refine ws_r rfl rfl rfl rfl (rd_fieldAddr rfl) ?_
    refine ws_r rfl rfl rfl rfl (rd_sliceArr rfl Try.underlying27 rfl Try.sizeOf5) ?_
    refine ws_late rfl ?_
    refine ws_appendSB rfl rfl rfl rfl rfl hown (Src.bytes (bs := x.id.toList) (E := 29) (fr := (0, 0)) (inferInstance : BytesAt (entC x) 0 32 x.id.toList) (by simp)) (by8_one _) (by omega) (fun b hb => .inr (List.mem_cons_of_mem _ (List.mem_cons_of_mem _ (List.mem_cons_of_mem _ hb)))) (by simp only [maxLen, List.length_append, Vector.length_toList, b4_len]; omega) (by (try simp only [List.length_append, Vector.length_toList, b4_len]); omega) (fun _ _ _ h => by first | (cases h; done) | skip) ?_
    intro va νva hownva hfva
    replace hownva := own_app (a := encB pre cut) (b := x.id.toList) hownva (by simp)
    have hocva : OneC va := hownva.oneC
    refine ws_store rfl rfl rfl rfl (by first | exact .inl (by assumption) | exact .inr (by simp)) (fun _ h _ => by first | (cases h; done) | exact List.mem_cons_of_mem _ h | exact List.mem_cons_of_mem _ (List.mem_cons_of_mem _ h) | (simp at h ⊢; simp [h])) ?_
    refine ws_nil ?_
    refine qe_then ?_
    refine wc_keep [(2, _), (3, _), (4, _)] rfl ?_
    refine wc_seq ?_
    refine wc_seq ?_
    refine wc_plain [(0, .x true), (1, .x true), (2, .x true), (3, .x true), (4, .x true), (5, .x true)] (by kernel_rfl) ?_
    refine ws_l rfl rfl rfl rfl (rd_fieldAddr rfl) ?_
    refine ws_l rfl rfl rfl rfl (rd_load rfl) ?_
    refine ws_l rfl rfl rfl rfl (rd_fieldAddr rfl) ?_
    refine ws_l rfl rfl rfl rfl (rd_load rfl) ?_
    refine ws_l rfl rfl rfl rfl (rd_build rfl) ?_
    refine ws_l rfl rfl rfl rfl (rd_move rfl) ?_
    refine ws_nil ?_
    refine qe_then ?_
    refine wc_block ?_
    refine wc_loop (fun mz ac w1 => ∃ (j : Nat) (v2 : Value) (ν2 : Heap), mz = 2 - j ∧ (j ≤ 2) ∧ (OwnR base 5 1 v2 ν2 (encB pre cut ++ x.id.toList ++ segB x j).length (by8 (encB pre cut ++ x.id.toList ++ segB x j))) ∧ (∀ b ∈ ν2.map Prod.fst, wr.heap.size ≤ b ∨ b ∈ νo.map Prod.fst) ∧ St 46 wr (lp :: D :: List.map Prod.fst ((b3, Obj.cells #[vo] 64 (0, 0)) :: νo)) [(3, ptr b3), (4, ptr b4), (26, .agg #[I x.arr, I x.date]), (27, I j)] ((lp, mk .busy none) :: (D, dblk) :: (b4, .cells (entC x) 29 (0, 0)) :: (b3, .cells #[v2] 64 (0, 0)) :: (ν2 ++ ((c, Obj.cells #[ptr p] 35 (0, 0)) :: hist p m cut es clock))) ac w1) _ (fun ac w1 hs => ⟨0, va, νva, rfl, (by omega), (by have e : encB pre cut ++ x.id.toList ++ segB x 0 = encB pre cut ++ x.id.toList := (by simp [segB]); rw [e]; exact hownva), (hfva), st_sub hs _ rfl⟩) ?_
    rintro _ ac1 wl1 ⟨j, v2, ν2, rfl, hj, hown2, hf2, hs1⟩
    refine wc_at hs1 ?_
    have hl2 : ((encB pre cut ++ x.id.toList ++ segB x j)).length ≤ (encB pre cut).length + 40 := by simp only [List.length_append, Vector.length_toList]; have : (segB x j).length ≤ 8 := (by rcases (show j = 0 ∨ j = 1 ∨ j = 2 by omega) with rfl | rfl | rfl <;> simp [segB, b4_len]); omega
    refine wc_seq ?_
    refine wc_plain [(0, .x true)] (by kernel_rfl) ?_
    refine ws_lcmp rfl rfl rfl (rfl) (rfl) (rfl) ?_ ?_
    · intro h28
      refine ws_nil ?_
      refine qe_then ?_
      refine wc_seq ?_
      refine wc_true rfl ?_
      refine wc_skip ?_
      refine qe_then ?_
      refine wc_seq ?_
      refine wc_block ?_
      refine wc_seq ?_
      refine wc_plain [(0, .x true), (1, .x true)] (by kernel_rfl) ?_
      refine ws_l rfl rfl rfl rfl (rd_indexArr (v := I (if j = 0 then x.arr else x.date)) rfl rfl Try.underlying102 Try.sizeOf3 Try.isAgg3 ⟨by omega, by omega⟩ (by rcases (show j = 0 ∨ j = 1 by omega) with rfl | rfl <;> rfl)) ?_
      refine ws_l rfl rfl rfl rfl (rd_assign rfl) ?_
      refine ws_nil ?_
      refine qe_then ?_
      refine wc_plain [(0, .x true), (1, .x true), (2, .x true), (3, .x true)] (by kernel_rfl) ?_
      refine ws_l rfl rfl rfl rfl (rd_load rfl) ?_
      refine ws_l rfl rfl rfl rfl (rd_move rfl) ?_
      have hz : 0 ≤ (if j = 0 then x.arr else x.date) ∧ (if j = 0 then x.arr else x.date) < 4294967296 := by split; exact hcx.1; exact hcx.2.1
      refine ws_callV ν2 (Φ := fun w v w' => ∃ ν' : Heap, OwnR base 5 1 v ν' ((encB pre cut ++ x.id.toList ++ segB x j).length + 4) (by8 (encB pre cut ++ x.id.toList ++ segB x j) ++ by8 (Ytegjmmjjchpeoaa.b4 (if j = 0 then x.arr else x.date))) ∧ HpOK ν' w' ∧ ∀ b ∈ ν'.map Prod.fst, w.heap.size ≤ b ∨ b ∈ ν2.map Prod.fst) rfl rfl rfl rfl rfl (En.go) (fun w hp hn ho => four_retz base _ v2 ν2 _ hown2 _ hz (by omega) w (by have := ho.size; omega) (hp.mono (by intro q hq; simp [hq]))) (fun b hb => (hf2 b hb).imp id (fun h => List.mem_cons_of_mem _ (List.mem_cons_of_mem _ (List.mem_cons_of_mem _ h)))) (fun _ _ h => by cases h) ?_
      rintro v32 wa wb - hon - - ⟨ν32, hown32, hν32, hf32⟩
      refine ⟨ν32, hν32, hown32.nd, hf32, ?_⟩
      have hoc32 : OneC v32 := hown32.oneC
      have hon32 := hon.size
      refine ws_store rfl rfl rfl rfl (by first | exact .inl (by assumption) | exact .inr (by simp)) (fun _ h _ => by first | (cases h; done) | exact List.mem_cons_of_mem _ h | exact List.mem_cons_of_mem _ (List.mem_cons_of_mem _ h) | (simp at h ⊢; simp [h])) ?_
      refine ws_nil ?_
      refine qe_block ?_
      refine qe_then ?_
      refine wc_plain [(0, .x true), (1, .x true)] (by kernel_rfl) ?_
      refine ws_l rfl rfl rfl rfl (rd_arith (((j + 1 : Nat) : Int)) rfl rfl rfl (by rw [wrap_i64 _ (by omega) (by omega)]; omega)) ?_
      refine ws_l rfl rfl rfl rfl (rd_move rfl) ?_
      refine ws_nil ?_
      exact qe_loop fun ac2 w2 hs2 => ⟨_, by omega, j + 1, v32, ν32, rfl, (by omega), (by rw [segB_next x j (by omega), ← List.append_assoc]; exact own_app hown32 (b4_len _)), (fun b hb => by rcases hf32 b hb with h | h; exact .inl (by omega); exact hf2 b h), st_sub hs2 _ rfl⟩
    · intro h28
      refine ws_nil ?_
      refine qe_then ?_
      refine wc_seq ?_
      refine wc_false rfl ?_
      refine wc_exit ?_
      refine qe_then_exit ?_
      refine qe_then_exit ?_
      refine qe_block_exit ?_
      refine qe_then ?_
      refine wc_seq ?_
      refine wc_plain [(0, .x true), (1, .x true), (2, .x true)] (by kernel_rfl) ?_
      refine ws_l rfl rfl rfl rfl (rd_fieldAddr rfl) ?_
      refine ws_l rfl rfl rfl rfl (rd_load rfl) ?_
      refine ws_l rfl rfl rfl rfl (rd_assign rfl) ?_
      refine ws_nil ?_
      refine qe_then ?_
      refine wc_keep [(3, _), (4, _), (7, _)] rfl ?_
      refine wc_seq ?_
      refine wc_seq ?_
      refine wc_plain [(0, .x true), (1, .x true)] (by kernel_rfl) ?_
      refine ws_l rfl rfl rfl rfl (rd_fieldAddr rfl) ?_
      refine ws_lb _ rfl rfl rfl rfl (rd_load rfl) ?_ ?_
      · intro hpm
        refine ws_nil ?_
        refine qe_then ?_
        refine wc_true rfl ?_
        refine wc_plain [(0, .x true), (1, .x true), (2, .x true)] (by kernel_rfl) ?_
        refine ws_l rfl rfl rfl rfl (rd_move rfl) ?_
        refine ws_l rfl rfl rfl rfl (rd_arith (x.st + 2) rfl rfl rfl (by rw [wrap_i64 _ (by omega) (by omega)])) ?_
        refine ws_l rfl rfl rfl rfl (rd_assign rfl) ?_
        refine ws_nil ?_
        refine qe_then ?_
        refine wc_keep [(3, _), (7, _)] rfl ?_
        refine wc_plain [(0, .x true), (1, .x true), (2, .x true), (3, .x true), (4, .x true), (5, .x true)] (by kernel_rfl) ?_
        refine ws_l rfl rfl rfl rfl (rd_load rfl) ?_
        refine ws_l rfl rfl rfl rfl (rd_move rfl) ?_
        refine ws_l rfl rfl rfl rfl (rd_conv rfl (run_conv_int (((flagE x).toNat : Nat) : Int) Try.underlying3 Try.underlying5 (by have h := flag_wrap hcx.2.2; rw [hpm] at h; simpa using h))) ?_
        refine ws_buildSlice rfl rfl rfl rfl ?_
        intro b43 hb43
        obtain rfl : j = 2 := by omega
        refine ws_appendB rfl rfl rfl rfl rfl hown2 (by simp) (by simp [Value.oneCell']) (by omega) (fun b hb => (hf2 b hb).imp id (fun h => List.mem_cons_of_mem _ (List.mem_cons_of_mem _ (List.mem_cons_of_mem _ h)))) (by simp only [maxLen]; omega) (by omega) (fun _ _ _ h => by first | (cases h; done) | skip) ?_
        intro vf νf hownf hff
        have hocf : OneC vf := hownf.oneC
        refine ws_store rfl rfl rfl rfl (by first | exact .inl (by assumption) | exact .inr (by simp)) (fun _ h _ => by first | (cases h; done) | exact List.mem_cons_of_mem _ h | exact List.mem_cons_of_mem _ (List.mem_cons_of_mem _ h) | (simp at h ⊢; simp [h])) ?_
        refine ws_nil ?_
        refine qe_block ?_
        exact qe_next hrec ((b3, Obj.cells #[vf] 64 (0, 0)) :: νf) (fun b hb => by simp only [List.map_cons, List.mem_cons] at hb ⊢; rcases hb with rfl | hb; exact .inr (.inl rfl); rcases hff b hb with h | h; exact .inl h; exact (hf2 b h).imp id .inr) (⟨vf, νf, rfl, by rw [encB_snoc]; exact own_app (b := [flagE x]) hownf rfl⟩)
      · intro hpm
        refine ws_nil ?_
        refine qe_then ?_
        refine wc_false rfl ?_
        refine wc_skip ?_
        refine qe_then ?_
        refine wc_plain [(0, .x true), (1, .x true), (2, .x true), (3, .x true), (4, .x true), (5, .x true)] (by kernel_rfl) ?_
        refine ws_l rfl rfl rfl rfl (rd_load rfl) ?_
        refine ws_l rfl rfl rfl rfl (rd_move rfl) ?_
        refine ws_l rfl rfl rfl rfl (rd_conv rfl (run_conv_int (((flagE x).toNat : Nat) : Int) Try.underlying3 Try.underlying5 (by have h := flag_wrap hcx.2.2; rw [hpm] at h; simpa using h))) ?_
        refine ws_buildSlice rfl rfl rfl rfl ?_
        intro b43 hb43
        obtain rfl : j = 2 := by omega
        refine ws_appendB rfl rfl rfl rfl rfl hown2 (by simp) (by simp [Value.oneCell']) (by omega) (fun b hb => (hf2 b hb).imp id (fun h => List.mem_cons_of_mem _ (List.mem_cons_of_mem _ (List.mem_cons_of_mem _ h)))) (by simp only [maxLen]; omega) (by omega) (fun _ _ _ h => by first | (cases h; done) | skip) ?_
        intro vf νf hownf hff
        have hocf : OneC vf := hownf.oneC
        refine ws_store rfl rfl rfl rfl (by first | exact .inl (by assumption) | exact .inr (by simp)) (fun _ h _ => by first | (cases h; done) | exact List.mem_cons_of_mem _ h | exact List.mem_cons_of_mem _ (List.mem_cons_of_mem _ h) | (simp at h ⊢; simp [h])) ?_
        refine ws_nil ?_
        refine qe_block ?_
        exact qe_next hrec ((b3, Obj.cells #[vf] 64 (0, 0)) :: νf) (fun b hb => by simp only [List.map_cons, List.mem_cons] at hb ⊢; rcases hb with rfl | hb; exact .inr (.inl rfl); rcases hff b hb with h | h; exact .inl h; exact (hf2 b h).imp id .inr) (⟨vf, νf, rfl, by rw [encB_snoc]; exact own_app (b := [flagE x]) hownf rfl⟩)
  · intro D νr hD hJr hfr
    obtain ⟨vo, νo, rfl, hown⟩ := hJr
    refine qe_eqh (η' := (D, dblk) :: (b3, .cells #[vo] 64 (0, 0)) :: (νo ++ ((c, Obj.cells #[ptr p] 35 (0, 0)) :: hist p m cut es clock))) rfl ?_
    refine qe_block ?_
    refine qe_then ?_
    refine wc_seq ?_
    refine wc_plain [(0, .x true), (1, .x true)] (by kernel_rfl) ?_
    refine ws_l rfl rfl rfl rfl (rd_load rfl) ?_
    refine ws_l rfl rfl rfl rfl (rd_assign rfl) ?_
    refine ws_nil ?_
    refine qe_then ?_
    refine wc_ret ?_
    refine qe_bodyM1 rfl hD _ (.inl rfl) (res1 rfl (RV.tmp rfl)) ?_
    exact ret_end fun w hp hn ho => ⟨νo, hown, hp.mono (fun q hq => List.mem_cons_of_mem _ (List.mem_append_left _ hq))⟩
  · intro D pre rest c νr hD hxs hXr hfr
    exact hXr.elim

end Go.Proofs.Ytegjmmjjchpeoaa
