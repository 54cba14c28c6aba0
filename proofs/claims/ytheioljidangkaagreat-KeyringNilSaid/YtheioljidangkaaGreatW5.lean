/- Walks: padded bytes (begun). No conditions. -/
import Derived.Test.YtheioljidangkaaGreatEqs
import Derived.Test.YtheioljidangkaaGreatW4
namespace Go.Proofs.YtheioljidangkaaGreat
open Go Go.RowKit Go.Sx
set_option linter.unusedSimpArgs false
set_option linter.unusedVariables false

theorem u8_one (x : UInt8) : ∀ u ∈ (#[u8v x] : Array Value).toList, u.oneCell' = true := fun u hu => by simp at hu; subst hu; rfl
abbrev byL (bs : List UInt8) : List Value := bs.map u8v
def padZ (bs : List UInt8) (z : Nat) : List UInt8 := bs ++ [128] ++ List.replicate z 0
def lenB (j : Nat) : List UInt8 := (List.range j).map fun i => if i = 7 then 136 else 0
theorem padZ_succ (bs : List UInt8) (z : Nat) : byL (padZ bs (z + 1)) = byL (padZ bs z) ++ [.int .u8 0] := by simp [padZ, List.replicate_succ', byL]
theorem lenB_succ (j : Nat) : lenB (j + 1) = lenB j ++ [if j = 7 then 136 else 0] := by simp [lenB, List.range_succ]
theorem padZ_zero (bs : List UInt8) : byL (padZ bs 0) = byL bs ++ [.int .u8 128] := by
  show (bs ++ [128] ++ []).map u8v = _
  rw [List.append_nil, List.map_append]; rfl
theorem lenB_app (bs : List UInt8) (j : Nat) : byL (padZ bs 38 ++ lenB (j + 1)) = byL (padZ bs 38 ++ lenB j) ++ [u8v (if j = 7 then 136 else 0)] := by simp [byL, lenB_succ]
theorem shr136 : ∀ j : Fin 8, (136 : Int).fdiv (2 ^ min (8 * (7 - (j.1 : Int))).toNat IntKind.u64.bits) = if j.1 = 7 then 136 else 0 := by decide
instance : BuildsS Tryz.prog 87 0 [] 5 #[] := BuildsS.zero Tryz.underlying87 Tryz.sizeOf5
instance (x : Int) : BuildsS Tryz.prog 87 1 [(0, .int .u8 x)] 5 #[.int .u8 x] := BuildsS.one Tryz.underlying87 Tryz.sizeOf5 rfl rfl Tryz.zeroValue5 rfl rfl
set_option maxRecDepth 100000 in
set_option maxHeartbeats 2000000 in
theorem padded_ref (v : Value) (φ : Heap) (bs : List UInt8) (hl : bs.length = 17) (hsrc : Src φ v 1 17 (byL bs)) (w : World) (hφ : HpOK φ w) (hnd : (φ.map Prod.fst).Nodup) : Ret Tryz.prog 84 [v] w [] (fun u w' => ∃ (ν' : Heap), OwnR w.heap.size 5 1 u ν' 64 (byL (padZ bs 38 ++ lenB 8)) ∧ HpOK ν' w') := by
  refine enter (n := 35) (args := [v]) [] φ Tryz.func84 rfl rfl rfl hφ hnd ?_
  refine wc_seq ?_
  refine wc_plain [(0, .x true)] (by kernel_rfl) ?_
  refine ws_l rfl rfl rfl rfl (rd_assign rfl) ?_
  refine ws_nil ?_
  refine qe_then ?_
  refine wc_seq ?_
  refine wc_plain [(0, .x true), (1, .x true), (2, .x true), (3, .x true), (4, .x true), (5, .x true)] (by kernel_rfl) ?_
  refine ws_buildSlice rfl rfl rfl rfl ?_
  intro b6 hb6
  have hlit0 := OwnR.lit0 (E := 5) (k := 1) hb6
  refine ws_l rfl rfl rfl rfl (rd_move rfl) ?_
  refine ws_appendS rfl rfl rfl rfl rfl hlit0 (hsrc.mono (fun _ h => by simp [h])) (fun u hu => by obtain ⟨x, _, rfl⟩ := List.mem_map.1 hu; rfl) (by simp only [maxLen]; omega) (by omega) (fun _ _ _ h => by first | (cases h; done) | skip) ?_
  intro va νa howna
  simp only [List.nil_append, Nat.zero_add] at howna
  refine ws_buildSlice rfl rfl rfl rfl ?_
  intro b9 hb9
  refine ws_append rfl rfl rfl rfl rfl howna (by simp) (by simp [Value.oneCell']) (by simp only [maxLen]; omega) (by omega) (fun _ _ _ h => by first | (cases h; done) | (simp only [List.mem_append, List.mem_cons] at h ⊢; grind) | skip) ?_
  intro v3' ν3' hown3'
  refine ws_l rfl rfl rfl rfl (rd_assign rfl) ?_
  refine ws_nil ?_
  refine qe_then ?_
  refine wc_keep [(0, _), (2, _), (3, _)] rfl ?_
  refine wc_seq ?_
  refine wc_block ?_
  refine wc_loop (fun mz ac w1 => ∃ (z : Nat) (v3 : Value) (ν3 : Heap), mz = 38 - z ∧ (z ≤ 38) ∧ (OwnR w.heap.size 5 1 v3 ν3 (18 + z) (byL (padZ bs z))) ∧ St 35 w [] [(0, v), (3, v3)] (ν3 ++ φ) ac w1) _ (fun ac w1 hs => ⟨0, _, ν3', rfl, (by omega), (by rw [padZ_zero]; exact hown3'), st_sub hs _ rfl⟩) ?_
  rintro _ ac1 wl1 ⟨z, v3, ν3, rfl, hz, hown, hs1⟩
  refine wc_at hs1 ?_
  refine wc_seq ?_
  refine wc_seq ?_
  refine wc_plain [(0, .x true), (1, .x true), (2, .x true), (3, .x true)] (by kernel_rfl) ?_
  refine ws_l rfl rfl rfl rfl (rd_move rfl) ?_
  refine ws_l rfl rfl rfl rfl (rd_lenO hown rfl Tryz.underlying87) ?_
  refine ws_l rfl rfl rfl rfl (rd_rem ((((18 + z) % 64 : Nat) : Nat) : Int) rfl rfl (by omega) (by rw [Int.tmod_eq_emod_of_nonneg (by omega)]; rfl)) ?_
  refine ws_lcmp rfl rfl rfl (rfl) (rfl) (rfl) ?_ ?_
  · intro h14
    refine ws_nil ?_
    refine qe_then ?_
    refine wc_true rfl ?_
    refine wc_skip ?_
    refine qe_then ?_
    refine wc_block ?_
    refine wc_plain [(0, .x true), (1, .x true), (2, .x true), (3, .x true)] (by kernel_rfl) ?_
    refine ws_l rfl rfl rfl rfl (rd_move rfl) ?_
    refine ws_buildSlice rfl rfl rfl rfl ?_
    intro b16 hb16
    refine ws_append rfl rfl rfl rfl rfl hown (by simp) (by simp [Value.oneCell']) (by simp only [maxLen]; omega) (by omega) (fun _ _ _ h => by first | (cases h; done) | (simp only [List.mem_append, List.mem_cons] at h ⊢; grind) | skip) ?_
    intro v3' ν3' hown3'
    refine ws_l rfl rfl rfl rfl (rd_assign rfl) ?_
    refine ws_nil ?_
    refine qe_block ?_
    exact qe_loop fun ac2 w2 hs2 => ⟨_, by (simp only [cmpP] at h14; omega), z + 1, v3', ν3', rfl, (by simp only [cmpP] at h14; omega), (by rw [padZ_succ]; exact hown3'), st_sub hs2 _ rfl⟩
  · intro h14
    refine ws_nil ?_
    refine qe_then ?_
    refine wc_false rfl ?_
    refine wc_exit ?_
    refine qe_then_exit ?_
    refine qe_then_exit ?_
    refine qe_block_exit ?_
    refine qe_then ?_
    refine wc_seq ?_
    refine wc_plain [(0, .x true), (1, .x true), (2, .x true), (3, .x true), (4, .x true)] (by kernel_rfl) ?_
    refine ws_l rfl rfl rfl rfl (rd_move rfl) ?_
    refine ws_l rfl rfl rfl rfl (rd_lenS hsrc rfl Tryz.underlying87) ?_
    refine ws_l rfl rfl rfl rfl (rd_conv rfl (run_conv_int 17 Tryz.underlying3 (by first | exact Tryz.underlying126 | exact Tryz.underlying151 | exact Tryz.underlying163) (by decide))) ?_
    refine ws_l rfl rfl rfl rfl (rd_arith 136 rfl rfl rfl (by decide)) ?_
    refine ws_l rfl rfl rfl rfl (rd_assign rfl) ?_
    refine ws_nil ?_
    refine qe_then ?_
    refine wc_keep [(3, _), (4, _)] rfl ?_
    refine wc_seq ?_
    refine wc_seq ?_
    refine wc_plain [(0, .x true)] (by kernel_rfl) ?_
    refine ws_l rfl rfl rfl rfl (rd_assign rfl) ?_
    refine ws_nil ?_
    refine qe_then ?_
    refine wc_block ?_
    refine wc_loop (fun mz ac w1 => ∃ (j : Nat) (v3 : Value) (ν3 : Heap), mz = 8 - j ∧ (j ≤ 8) ∧ (OwnR w.heap.size 5 1 v3 ν3 (56 + j) (byL (padZ bs 38 ++ lenB j))) ∧ St 35 w [] [(3, v3), (4, .int .u64 136), (5, I (7 - (j : Int)))] (ν3 ++ φ) ac w1) _ (fun ac w1 hs => ⟨0, _, ν3, rfl, (by omega), (by have h38 : z = 38 := (by simp only [cmpP] at h14; omega); subst h38; simpa [lenB] using hown), st_sub hs _ rfl⟩) ?_
    rintro _ ac2 wl2 ⟨j, v3, ν3, rfl, hj, hown, hs2⟩
    refine wc_at hs2 ?_
    refine wc_seq ?_
    refine wc_seq ?_
    refine wc_plain [(0, .x true), (1, .x true)] (by kernel_rfl) ?_
    refine ws_l rfl rfl rfl rfl (rd_move rfl) ?_
    refine ws_lcmp rfl rfl rfl (rfl) (rfl) (rfl) ?_ ?_
    · intro h23
      refine ws_nil ?_
      refine qe_then ?_
      refine wc_true rfl ?_
      refine wc_skip ?_
      refine qe_then ?_
      refine wc_seq ?_
      refine wc_block ?_
      refine wc_plain [(0, .x true), (1, .x true), (2, .x true), (3, .x true), (4, .x true), (5, .x true), (6, .x true), (7, .x true), (8, .x true)] (by kernel_rfl) ?_
      refine ws_l rfl rfl rfl rfl (rd_move rfl) ?_
      refine ws_l rfl rfl rfl rfl (rd_move rfl) ?_
      refine ws_l rfl rfl rfl rfl (rd_move rfl) ?_
      refine ws_l rfl rfl rfl rfl (rd_arith (8 * (7 - (j : Int))) rfl rfl rfl (by simp only [cmpP] at h23; rw [wrap_i64 _ (by omega) (by omega)])) ?_
      refine ws_l rfl rfl rfl rfl (rd_shr _ rfl rfl (by simp only [cmpP] at h23; omega) (shr136 ⟨j, by simp only [cmpP] at h23; omega⟩)) ?_
      refine ws_l rfl rfl rfl rfl (rd_conv rfl (run_conv_int ((((if j = 7 then 136 else 0 : UInt8)).toNat : Nat) : Int) (by first | exact Tryz.underlying126 | exact Tryz.underlying151 | exact Tryz.underlying163) Tryz.underlying5 (by by_cases h7 : j = 7 <;> simp [h7] <;> decide))) ?_
      refine ws_buildSlice rfl rfl rfl rfl ?_
      intro b32 hb32
      refine ws_append rfl rfl rfl rfl rfl hown (by simp) (by simp [Value.oneCell']) (by simp only [maxLen]; omega) (by omega) (fun _ _ _ h => by first | (cases h; done) | (simp only [List.mem_append, List.mem_cons] at h ⊢; grind) | skip) ?_
      intro v3' ν3' hown3'
      refine ws_l rfl rfl rfl rfl (rd_assign rfl) ?_
      refine ws_nil ?_
      refine qe_block ?_
      refine qe_then ?_
      refine wc_plain [(0, .x true), (1, .x true), (2, .x true)] (by kernel_rfl) ?_
      refine ws_l rfl rfl rfl rfl (rd_move rfl) ?_
      refine ws_l rfl rfl rfl rfl (rd_arith (7 - ((j + 1 : Nat) : Int)) rfl rfl rfl (by rw [wrap_i64 _ (by omega) (by omega)]; omega)) ?_
      refine ws_l rfl rfl rfl rfl (rd_assign rfl) ?_
      refine ws_nil ?_
      exact qe_loop fun ac2 w2 hs2 => ⟨_, by (simp only [cmpP] at h23; omega), j + 1, v3', ν3', rfl, (by simp only [cmpP] at h23; omega), (by rw [lenB_app]; exact hown3'), st_sub hs2 _ rfl⟩
    · intro h23
      refine ws_nil ?_
      refine qe_then ?_
      refine wc_false rfl ?_
      refine wc_exit ?_
      refine qe_then_exit ?_
      refine qe_then_exit ?_
      refine qe_block_exit ?_
      refine qe_then ?_
      refine wc_seq ?_
      refine wc_plain [(0, .x true), (1, .x true)] (by kernel_rfl) ?_
      refine ws_l rfl rfl rfl rfl (rd_move rfl) ?_
      refine ws_l rfl rfl rfl rfl (rd_assign rfl) ?_
      refine ws_nil ?_
      refine qe_then ?_
      refine wc_keep [(2, _)] rfl ?_
      refine wc_ret ?_
      refine qe_body _ (.inl rfl) (res1 rfl (RV.tmp rfl)) ?_
      have hj8 : j = 8 := by simp only [cmpP] at h23; omega
      subst hj8
      exact ret_end fun w hp hn ho => ⟨ν3, hown, hp.mono (by intro q hq; simp [hq])⟩

end Go.Proofs.YtheioljidangkaaGreat
