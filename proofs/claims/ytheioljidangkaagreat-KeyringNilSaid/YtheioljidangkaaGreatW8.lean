/- Walks: a running digest: Write, Sum. No conditions. -/
import Derived.Test.YtheioljidangkaaGreatW7
namespace Go.Proofs.YtheioljidangkaaGreat
open Go Go.RowKit Go.Sx
set_option linter.unusedSimpArgs false
set_option linter.unusedVariables false

set_option maxRecDepth 100000 in
set_option maxHeartbeats 1000000 in
theorem write_ret (p : Nat) (st : WV 8) (v : Value) (φ : Heap) (bs : List UInt8) (hl : bs.length = 17) (hsrc : Src φ v 1 17 (byL bs)) (w : World) (hφ : HpOK ((p, .cells (hashC st snil 0 true) 187 (0, 0)) :: φ) w) (hnd : (((p, .cells (hashC st snil 0 true) 187 (0, 0)) :: φ).map Prod.fst).Nodup) : Ret Tryz.prog 105 [ptr p, v] w [p] (fun _ w' => ∃ g c cur, w.heap.size ≤ g ∧ p ≠ g ∧ HpOK [(p, .cells (hashC st (.slice (some ⟨g, 0, none⟩) 17 c) 17 true) 187 (0, 0)), (g, .cells cur 5 (0, 0))] w' ∧ BytesAt cur 0 17 bs) := by
  refine enter (n := 19) (args := [ptr p, v]) [p] ((p, .cells (hashC st snil 0 true) 187 (0, 0)) :: φ) Tryz.func105 rfl rfl rfl hφ hnd ?_
  refine wc_seq ?_
  refine wc_plain [(0, .x true)] (by kernel_rfl) ?_
  refine ws_l rfl rfl rfl rfl (rd_assign rfl) ?_
  refine ws_nil ?_
  refine qe_then ?_
  refine wc_seq ?_
  refine wc_seq ?_
  refine wc_plain [(0, .x true), (1, .x true)] (by kernel_rfl) ?_
  refine ws_l rfl rfl rfl rfl (rd_move rfl) ?_
  refine ws_l rfl rfl rfl rfl (rd_ptr_nil rfl rfl Tryz.underlying174 rfl) ?_
  refine ws_nil ?_
  refine qe_then ?_
  refine wc_false rfl ?_
  refine wc_skip ?_
  refine qe_then ?_
  refine wc_seq ?_
  refine wc_plain [(0, .x true), (1, .x true), (2, .x true)] (by kernel_rfl) ?_
  refine ws_l rfl rfl rfl rfl (rd_move rfl) ?_
  refine ws_l rfl rfl rfl rfl (rd_move rfl) ?_
  refine ws_call rfl rfl rfl rfl rfl (En.go) (fun w hp hn ho => take17_ret p st 0 v φ bs hl hsrc w (hp.mono SubH.mem) (SubH.nd hn)) (fun b hb => .inr (by simpa using hb)) (fun hh q h => by first | (cases h; done) | exact hh q h) ?_
  rintro v9 wa wb hpo hon hon2 hp1 ⟨g9, c9, cur9, hg9, hp9, hB9⟩
  refine ⟨_, hp9, by simp; exact fun e => by have := hpo.lt (b := p) (List.mem_cons_self ..); omega, fun b hb => by simp at hb; rcases hb with rfl | rfl; exact .inr (by simp); exact .inl hg9, ?_⟩
  replace hg9 := Nat.le_trans hon.size hg9
  simp only [List.cons_append, List.nil_append]
  refine ws_nil ?_
  refine qe_then ?_
  refine wc_keep [(0, _), (1, _), (4, _)] rfl ?_
  refine wc_seq ?_
  refine wc_plain [(0, .x true), (1, .x true), (2, .x true), (3, .x true), (4, .x true), (5, .x true), (6, .x true), (7, .x true), (8, .x true), (9, .x true)] (by kernel_rfl) ?_
  refine ws_l rfl rfl rfl rfl (rd_move rfl) ?_
  refine ws_l rfl rfl rfl rfl (rd_nil rfl) ?_
  refine ws_l rfl rfl rfl rfl (rd_fieldAddr rfl) ?_
  refine ws_l rfl rfl rfl rfl (rd_load rfl) ?_
  refine ws_l rfl rfl rfl rfl (rd_move rfl) ?_
  refine ws_l rfl rfl rfl rfl (rd_lenS hsrc rfl Tryz.underlying87) ?_
  refine ws_l rfl rfl rfl rfl (rd_arith 17 rfl rfl rfl (by decide)) ?_
  refine ws_l rfl rfl rfl rfl (rd_nil rfl) ?_
  refine ws_l rfl rfl rfl rfl (rd_fieldAddr rfl) ?_
  refine ws_store rfl rfl rfl rfl (by first | exact .inl (by assumption) | exact .inr (by simp)) (fun _ h _ => by first | (cases h; done) | exact List.mem_cons_of_mem _ h | exact List.mem_cons_of_mem _ (List.mem_cons_of_mem _ h) | (simp at h ⊢; simp [h])) ?_
  refine ws_nil ?_
  refine qe_then ?_
  refine wc_keep [(4, _)] rfl ?_
  refine wc_seq ?_
  refine wc_plain [(0, .x true)] (by kernel_rfl) ?_
  refine ws_l rfl rfl rfl rfl (rd_assign rfl) ?_
  refine ws_nil ?_
  refine qe_then ?_
  refine wc_ret ?_
  refine qe_body _ (.inl rfl) (res1 rfl (RV.tmp rfl)) ?_
  exact ret_end fun w hp hn ho => ⟨g9, c9, cur9, hg9, (fun e => by subst e; simp at hn), (hp.mono SubH.mem), hB9⟩
set_option maxRecDepth 100000 in
set_option maxHeartbeats 8000000 in
theorem hsum_ret (p g c : Nat) (cur : Array Value) (bs : List UInt8) (hl : bs.length = 17) (hB : BytesAt cur 0 17 bs) (w : World) (hφ : HpOK [(p, .cells (hashC kI (.slice (some ⟨g, 0, none⟩) 17 c) 17 true) 187 (0, 0)), (g, .cells cur 5 (0, 0))] w) (hne : p ≠ g) : Ret Tryz.prog 106 [ptr p] w [] (fun v _ => v = idK (digF bs)) := by
  refine enter (n := 101) (args := [ptr p]) [] [(p, .cells (hashC kI (.slice (some ⟨g, 0, none⟩) 17 c) 17 true) 187 (0, 0)), (g, .cells cur 5 (0, 0))] Tryz.func106 rfl rfl rfl hφ (by simp [hne]) ?_
  refine wc_seq ?_
  refine wc_plain [(0, .x true)] (by kernel_rfl) ?_
  refine ws_alloc rfl rfl rfl ?_
  intro b2 hb2
  refine ws_nil ?_
  refine qe_then ?_
  refine wc_seq ?_
  refine wc_seq ?_
  refine wc_plain [(0, .x true), (1, .x true)] (by kernel_rfl) ?_
  refine ws_l rfl rfl rfl rfl (rd_move rfl) ?_
  refine ws_l rfl rfl rfl rfl (rd_ptr_nil rfl rfl Tryz.underlying174 rfl) ?_
  refine ws_nil ?_
  refine qe_then ?_
  refine wc_false rfl ?_
  refine wc_skip ?_
  refine qe_then ?_
  refine wc_seq ?_
  refine wc_plain [(0, .x true), (1, .x true), (2, .x true)] (by kernel_rfl) ?_
  refine ws_l rfl rfl rfl rfl (rd_move rfl) ?_
  refine ws_call rfl rfl rfl rfl rfl (En.go) (fun w hp hn ho => hclone_ret p g c cur kI 17 bs hl hB w (hp.mono SubH.mem) hne) (fun _ h => by cases h) (fun hh q h => by first | (cases h; done) | exact hh q h) ?_
  rintro v14 wa wb hpo hon hon2 hp1 ⟨p', g', c', cur', rfl, hp', hg', hne', hph, hB'⟩
  refine ⟨_, hph, by simp [hne'], fun b hb => by simp at hb; rcases hb with rfl | rfl; exact .inl hp'; exact .inl hg', ?_⟩
  replace hp' := Nat.le_trans hon.size hp'
  replace hg' := Nat.le_trans hon.size hg'
  simp only [List.cons_append, List.nil_append]
  refine ws_l rfl rfl rfl rfl (rd_assign rfl) ?_
  refine ws_nil ?_
  refine qe_then ?_
  refine wc_keep [(2, _), (3, _)] rfl ?_
  refine wc_seq ?_
  refine wc_plain [(0, .x true), (1, .x true)] (by kernel_rfl) ?_
  refine ws_buildSlice rfl rfl rfl rfl ?_
  intro b15 hb15
  have hlit := OwnR.lit (E := 5) (k := 1) (n := 1) (cs := #[.int .u8 128]) hb15 rfl (by simp [maxLen])
  refine ws_l rfl rfl rfl rfl (rd_assign rfl) ?_
  refine ws_nil ?_
  refine qe_then ?_
  refine wc_seq ?_
  refine wc_block ?_
  refine wc_loop (fun mz ac w1 => ∃ (z : Nat) (v4 : Value) (ν4 : Heap), mz = 38 - z ∧ (z ≤ 38) ∧ (OwnR w.heap.size 5 1 v4 ν4 (1 + z) (byL (padZ [] z))) ∧ St 101 w [] [(2, ptr b2), (3, ptr p'), (4, v4)] (ν4 ++ [(p', .cells (hashC kI (.slice (some ⟨g', 0, none⟩) 17 c') 17 true) 187 (0, 0)), (g', .cells cur' 5 (0, 0)), (b2, .cells (idC (zv 32)) 161 (0, 0))]) ac w1) _ (fun ac w1 hs => ⟨0, _, [(b15, .cells #[.int .u8 128] 5 (0, 0))], rfl, (by omega), (hlit), st_sub hs _ rfl⟩) ?_
  rintro _ ac1 wl1 ⟨z, v4, ν4, rfl, hz, hown, hs1⟩
  refine wc_at hs1 ?_
  refine wc_seq ?_
  refine wc_seq ?_
  refine wc_plain [(0, .x true), (1, .x true), (2, .x true), (3, .x true), (4, .x true), (5, .x true), (6, .x true), (7, .x true), (8, .x true)] (by kernel_rfl) ?_
  refine ws_l rfl rfl rfl rfl (rd_move rfl) ?_
  refine ws_l rfl rfl rfl rfl (rd_nil rfl) ?_
  refine ws_l rfl rfl rfl rfl (rd_fieldAddr rfl) ?_
  refine ws_l rfl rfl rfl rfl (rd_load rfl) ?_
  refine ws_l rfl rfl rfl rfl (rd_move rfl) ?_
  refine ws_l rfl rfl rfl rfl (rd_lenO hown rfl Tryz.underlying87) ?_
  refine ws_l rfl rfl rfl rfl (rd_arith (((17 + (1 + z) : Nat) : Nat) : Int) rfl rfl rfl (by rw [wrap_i64 _ (by omega) (by omega)]; omega)) ?_
  refine ws_l rfl rfl rfl rfl (rd_rem ((((17 + (1 + z)) % 64 : Nat) : Nat) : Int) rfl rfl (by omega) (tmodN _ 64)) ?_
  refine ws_lcmp rfl rfl rfl (rfl) (rfl) (rfl) ?_ ?_
  · intro h24
    refine ws_nil ?_
    refine qe_then ?_
    refine wc_true rfl ?_
    refine wc_skip ?_
    refine qe_then ?_
    refine wc_block ?_
    refine wc_plain [(0, .x true), (1, .x true), (2, .x true), (3, .x true)] (by kernel_rfl) ?_
    refine ws_l rfl rfl rfl rfl (rd_move rfl) ?_
    refine ws_buildSlice rfl rfl rfl rfl ?_
    intro b26 hb26
    refine ws_append rfl rfl rfl rfl rfl hown (by simp) (by simp [Value.oneCell']) (by simp only [maxLen]; omega) (by omega) (fun _ _ _ h => by first | (cases h; done) | (simp only [List.mem_append, List.mem_cons] at h ⊢; grind) | skip) ?_
    intro v3' ν3' hown3'
    refine ws_l rfl rfl rfl rfl (rd_assign rfl) ?_
    refine ws_nil ?_
    refine qe_block ?_
    exact qe_loop fun ac2 w2 hs2 => ⟨_, by (simp only [cmpP] at h24; omega), z + 1, v3', ν3', rfl, (by simp only [cmpP] at h24; omega), (by rw [padZ_succ]; exact hown3'), st_sub hs2 _ rfl⟩
  · intro h24
    refine ws_nil ?_
    refine qe_then ?_
    refine wc_false rfl ?_
    refine wc_exit ?_
    refine qe_then_exit ?_
    refine qe_then_exit ?_
    refine qe_block_exit ?_
    refine qe_then ?_
    refine wc_keep [(2, _), (3, _), (4, _)] rfl ?_
    refine wc_seq ?_
    refine wc_seq ?_
    refine wc_plain [(0, .x true)] (by kernel_rfl) ?_
    refine ws_l rfl rfl rfl rfl (rd_assign rfl) ?_
    refine ws_nil ?_
    refine qe_then ?_
    refine wc_block ?_
    refine wc_loop (fun mz ac w1 => ∃ (j : Nat) (v4 : Value) (ν4 : Heap), mz = 8 - j ∧ (j ≤ 8) ∧ (OwnR w.heap.size 5 1 v4 ν4 (39 + j) (byL (padZ [] 38 ++ lenB j))) ∧ St 101 w [] [(2, ptr b2), (3, ptr p'), (4, v4), (5, I (7 - (j : Int)))] (ν4 ++ [(p', .cells (hashC kI (.slice (some ⟨g', 0, none⟩) 17 c') 17 true) 187 (0, 0)), (g', .cells cur' 5 (0, 0)), (b2, .cells (idC (zv 32)) 161 (0, 0))]) ac w1) _ (fun ac w1 hs => ⟨0, _, ν4, rfl, (by omega), (by have h38 : z = 38 := (by simp only [cmpP] at h24; omega); subst h38; simpa [lenB] using hown), st_sub hs _ rfl⟩) ?_
    rintro _ ac2 wl2 ⟨j, v4, ν4, rfl, hj, hown, hs2⟩
    refine wc_at hs2 ?_
    refine wc_seq ?_
    refine wc_seq ?_
    refine wc_plain [(0, .x true), (1, .x true)] (by kernel_rfl) ?_
    refine ws_l rfl rfl rfl rfl (rd_move rfl) ?_
    refine ws_lcmp rfl rfl rfl (rfl) (rfl) (rfl) ?_ ?_
    · intro h29
      refine ws_nil ?_
      refine qe_then ?_
      refine wc_true rfl ?_
      refine wc_skip ?_
      refine qe_then ?_
      refine wc_seq ?_
      refine wc_block ?_
      refine wc_plain [(0, .x true), (1, .x true), (2, .x true), (3, .x true), (4, .x true), (5, .x true), (6, .x true), (7, .x true), (8, .x true), (9, .x true), (10, .x true), (11, .x true), (12, .x true), (13, .x true)] (by kernel_rfl) ?_
      refine ws_l rfl rfl rfl rfl (rd_move rfl) ?_
      refine ws_l rfl rfl rfl rfl (rd_move rfl) ?_
      refine ws_l rfl rfl rfl rfl (rd_nil rfl) ?_
      refine ws_l rfl rfl rfl rfl (rd_fieldAddr rfl) ?_
      refine ws_l rfl rfl rfl rfl (rd_load rfl) ?_
      refine ws_l rfl rfl rfl rfl (rd_conv rfl (run_conv_int 17 Tryz.underlying3 Tryz.underlying126 (by decide))) ?_
      refine ws_l rfl rfl rfl rfl (rd_arith 136 rfl rfl rfl (by decide)) ?_
      refine ws_l rfl rfl rfl rfl (rd_move rfl) ?_
      refine ws_l rfl rfl rfl rfl (rd_arith (8 * (7 - (j : Int))) rfl rfl rfl (by simp only [cmpP] at h29; rw [wrap_i64 _ (by omega) (by omega)])) ?_
      refine ws_l rfl rfl rfl rfl (rd_shr _ rfl rfl (by simp only [cmpP] at h29; omega) (shr136 ⟨j, by simp only [cmpP] at h29; omega⟩)) ?_
      refine ws_l rfl rfl rfl rfl (rd_conv rfl (run_conv_int ((((if j = 7 then 136 else 0 : UInt8)).toNat : Nat) : Int) Tryz.underlying126 Tryz.underlying5 (by by_cases h7 : j = 7 <;> simp [h7] <;> decide))) ?_
      refine ws_buildSlice rfl rfl rfl rfl ?_
      intro b43 hb43
      refine ws_append rfl rfl rfl rfl rfl hown (by simp) (by simp [Value.oneCell']) (by simp only [maxLen]; omega) (by omega) (fun _ _ _ h => by first | (cases h; done) | (simp only [List.mem_append, List.mem_cons] at h ⊢; grind) | skip) ?_
      intro v3' ν3' hown3'
      refine ws_l rfl rfl rfl rfl (rd_assign rfl) ?_
      refine ws_nil ?_
      refine qe_block ?_
      refine qe_then ?_
      refine wc_plain [(0, .x true), (1, .x true), (2, .x true)] (by kernel_rfl) ?_
      refine ws_l rfl rfl rfl rfl (rd_move rfl) ?_
      refine ws_l rfl rfl rfl rfl (rd_arith (7 - ((j + 1 : Nat) : Int)) rfl rfl rfl (by rw [wrap_i64 _ (by omega) (by omega)]; omega)) ?_
      refine ws_l rfl rfl rfl rfl (rd_assign rfl) ?_
      refine ws_nil ?_
      exact qe_loop fun ac2 w2 hs2 => ⟨_, by (simp only [cmpP] at h29; omega), j + 1, v3', ν3', rfl, (by simp only [cmpP] at h29; omega), (by rw [lenB_app]; exact hown3'), st_sub hs2 _ rfl⟩
    · intro h29
      refine ws_nil ?_
      refine qe_then ?_
      refine wc_false rfl ?_
      refine wc_exit ?_
      refine qe_then_exit ?_
      refine qe_then_exit ?_
      refine qe_block_exit ?_
      refine qe_then ?_
      refine wc_seq ?_
      refine wc_plain [(0, .x true), (1, .x true), (2, .x true)] (by kernel_rfl) ?_
      refine ws_l rfl rfl rfl rfl (rd_move rfl) ?_
      refine ws_l rfl rfl rfl rfl (rd_move rfl) ?_
      obtain rfl : j = 8 := by simp only [cmpP] at h29; omega
      refine ws_call rfl rfl rfl rfl rfl (En.go) (fun w hp hn ho => take64_ret p' g' c' cur' 5 (0, 0) kI 17 v4 ν4 bs (padB []) hl padB_nil hB' hown.src w (hp.mono SubH.mem) (SubH.nd hn)) (fun b hb => by simp at hb; subst hb; exact .inl hp') (fun hh q h => by first | (cases h; done) | exact hh q h) ?_
      rintro v47 wa wb hpo hon hon2 hp1 ⟨A7, m7, c7, hp7⟩
      rw [padB_app, digW_eq] at hp7
      refine ⟨_, hp7, by simp, fun b hb => by simp at hb; subst hb; exact .inr (by simp), ?_⟩
      simp only [List.cons_append, List.nil_append]
      refine ws_nil ?_
      refine qe_then ?_
      refine wc_keep [(2, _), (3, _)] rfl ?_
      refine wc_seq ?_
      refine wc_plain [(0, .x true)] (by kernel_rfl) ?_
      refine ws_alloc rfl rfl rfl ?_
      intro b6 hb6
      refine ws_nil ?_
      refine qe_then ?_
      refine wc_seq ?_
      refine wc_plain [(0, .x true), (1, .x true), (2, .x true), (3, .x true), (4, .x true), (5, .x true)] (by kernel_rfl) ?_
      refine ws_l rfl rfl rfl rfl (rd_move rfl) ?_
      refine ws_l rfl rfl rfl rfl (rd_nil rfl) ?_
      refine ws_l rfl rfl rfl rfl (rd_fieldAddr rfl) ?_
      refine ws_l rfl rfl rfl rfl (rd_load rfl) ?_
      refine ws_alloc rfl rfl rfl ?_
      intro b7 hb7
      refine ws_store rfl rfl rfl rfl (by first | exact .inl (by assumption) | exact .inr (by simp)) (fun _ h _ => by first | (cases h; done) | exact List.mem_cons_of_mem _ h | exact List.mem_cons_of_mem _ (List.mem_cons_of_mem _ h) | (simp at h ⊢; simp [h])) ?_
      refine ws_nil ?_
      refine qe_then ?_
      refine wc_keep [(2, _), (6, _), (7, _)] rfl ?_
      refine wc_seq ?_
      refine wc_seq ?_
      refine wc_plain [(0, .x true), (1, .x true), (2, .x true), (3, .x true), (4, .x true), (5, .x true), (6, .x true), (7, .x true), (8, .x true), (9, .x true), (10, .x true), (11, .x true), (12, .x true), (13, .x true), (14, .x true), (15, .x true), (16, .x true), (17, .x true)] (by kernel_rfl) ?_
      refine ws_l rfl rfl rfl rfl (rd_fieldAddr rfl) ?_
      refine ws_l rfl rfl rfl rfl (rd_load rfl) ?_
      refine ws_l rfl rfl rfl rfl (rd_fieldAddr rfl) ?_
      refine ws_l rfl rfl rfl rfl (rd_load rfl) ?_
      refine ws_l rfl rfl rfl rfl (rd_fieldAddr rfl) ?_
      refine ws_l rfl rfl rfl rfl (rd_load rfl) ?_
      refine ws_l rfl rfl rfl rfl (rd_fieldAddr rfl) ?_
      refine ws_l rfl rfl rfl rfl (rd_load rfl) ?_
      refine ws_l rfl rfl rfl rfl (rd_fieldAddr rfl) ?_
      refine ws_l rfl rfl rfl rfl (rd_load rfl) ?_
      refine ws_l rfl rfl rfl rfl (rd_fieldAddr rfl) ?_
      refine ws_l rfl rfl rfl rfl (rd_load rfl) ?_
      refine ws_l rfl rfl rfl rfl (rd_fieldAddr rfl) ?_
      refine ws_l rfl rfl rfl rfl (rd_load rfl) ?_
      refine ws_l rfl rfl rfl rfl (rd_fieldAddr rfl) ?_
      refine ws_l rfl rfl rfl rfl (rd_load rfl) ?_
      refine ws_l rfl rfl rfl rfl (rd_build rfl) ?_
      rw [words_eta]
      refine ws_l rfl rfl rfl rfl (rd_move rfl) ?_
      refine ws_nil ?_
      refine qe_then ?_
      refine wc_keep [(2, _), (6, _), (68, _), (69, _)] rfl ?_
      refine wc_block ?_
      refine wc_loop (fun mz ac w1 => ∃ (i : Nat) (D : Id), mz = 8 - i ∧ (i ≤ 8) ∧ (D = dig (digW bs) (4 * i)) ∧ St 101 w [] [(2, ptr b2), (6, ptr b6), (68, .agg (wC (digW bs))), (69, I i)] [(b6, .cells (idC D) 161 (0, 0)), (b2, .cells (idC (zv 32)) 161 (0, 0))] ac w1) _ (fun ac w1 hs => ⟨0, zv 32, rfl, (by omega), ((dig_zero _).symm), st_sub hs _ rfl⟩) ?_
      rintro _ ac3 wl3 ⟨i, D, rfl, hi, hD, hs3⟩
      refine wc_at hs3 ?_
      subst hD
      refine wc_seq ?_
      refine wc_plain [(0, .x true)] (by kernel_rfl) ?_
      refine ws_lcmp rfl rfl rfl (rfl) (rfl) (rfl) ?_ ?_
      · intro h70
        refine ws_nil ?_
        refine qe_then ?_
        refine wc_seq ?_
        refine wc_true rfl ?_
        refine wc_skip ?_
        refine qe_then ?_
        refine wc_seq ?_
        refine wc_block ?_
        refine wc_seq ?_
        refine wc_plain [(0, .x true), (1, .x true), (2, .x true), (3, .x true)] (by kernel_rfl) ?_
        have hi8 : i < 8 := by simp only [cmpP] at h70; omega
        have hs0 := dig_set40 (digW bs) i hi8
        have hs1 : SetAt (idC (dig (digW bs) (4 * i + 1))) (4 * i + 1) (.int .u8 (((shr32 (wg (digW bs) i) 16).toUInt8.toNat : Nat) : Int)) (idC (dig (digW bs) (4 * i + 1 + 1))) := dig_set4 (digW bs) i 1 hi8 (by omega)
        have hs2 : SetAt (idC (dig (digW bs) (4 * i + 2))) (4 * i + 2) (.int .u8 (((shr32 (wg (digW bs) i) 8).toUInt8.toNat : Nat) : Int)) (idC (dig (digW bs) (4 * i + 2 + 1))) := dig_set4 (digW bs) i 2 hi8 (by omega)
        have hs3 := dig_set43 (digW bs) i hi8
        refine ws_l rfl rfl rfl rfl (rd_move rfl) ?_
        refine ws_l rfl rfl rfl rfl (rd_indexArr (v := w32 (wg (digW bs) i)) rfl rfl Tryz.underlying152 Tryz.sizeOf149 Tryz.isAgg149 ⟨by omega, by omega⟩ (by rw [Int.toNat_natCast]; exact (w_getg (digW bs) hi8).go)) ?_
        refine ws_l rfl rfl rfl rfl (rd_assign rfl) ?_
        refine ws_l rfl rfl rfl rfl (rd_assign rfl) ?_
        refine ws_nil ?_
        refine qe_then ?_
        refine wc_plain [(0, .x true), (1, .x true), (2, .x true), (3, .x true), (4, .x true), (5, .x true), (6, .x true), (7, .x true), (8, .x true), (9, .x true), (10, .x true), (11, .x true), (12, .x true), (13, .x true), (14, .x true), (15, .x true), (16, .x true), (17, .x true), (18, .x true), (19, .x true), (20, .x true), (21, .x true), (22, .x true), (23, .x true), (24, .x true), (25, .x true), (26, .x true), (27, .x true), (28, .x true), (29, .x true)] (by kernel_rfl) ?_
        refine ws_l rfl rfl rfl rfl (rd_move rfl) ?_
        refine ws_l rfl rfl rfl rfl (rd_arith (((4 * i : Nat) : Nat) : Int) rfl rfl rfl (by rw [wrap_i64 _ (by omega) (by omega)]; omega)) ?_
        refine ws_l rfl rfl rfl rfl (rd_move rfl) ?_
        refine ws_l rfl rfl rfl rfl (rd_arith (((4 * i : Nat) : Nat) : Int) rfl rfl rfl (by rw [wrap_i64 _ (by omega) (by omega)]; omega)) ?_
        refine ws_l rfl rfl rfl rfl (rd_arith (((4 * i + 1 : Nat) : Nat) : Int) rfl rfl rfl (by rw [wrap_i64 _ (by omega) (by omega)]; omega)) ?_
        refine ws_l rfl rfl rfl rfl (rd_move rfl) ?_
        refine ws_l rfl rfl rfl rfl (rd_arith (((4 * i : Nat) : Nat) : Int) rfl rfl rfl (by rw [wrap_i64 _ (by omega) (by omega)]; omega)) ?_
        refine ws_l rfl rfl rfl rfl (rd_arith (((4 * i + 2 : Nat) : Nat) : Int) rfl rfl rfl (by rw [wrap_i64 _ (by omega) (by omega)]; omega)) ?_
        refine ws_l rfl rfl rfl rfl (rd_move rfl) ?_
        refine ws_l rfl rfl rfl rfl (rd_arith (((4 * i : Nat) : Nat) : Int) rfl rfl rfl (by rw [wrap_i64 _ (by omega) (by omega)]; omega)) ?_
        refine ws_l rfl rfl rfl rfl (rd_arith (((4 * i + 3 : Nat) : Nat) : Int) rfl rfl rfl (by rw [wrap_i64 _ (by omega) (by omega)]; omega)) ?_
        refine ws_l rfl rfl rfl rfl (rd_move rfl) ?_
        refine ws_l rfl rfl rfl rfl (rd_shr _ rfl rfl (by omega) (shr_32 _ 24 (by omega))) ?_
        refine ws_l rfl rfl rfl rfl (rd_conv rfl (run_conv_int _ Tryz.underlying149 Tryz.underlying5 (u32_8 _))) ?_
        refine ws_l rfl rfl rfl rfl (rd_move rfl) ?_
        refine ws_l rfl rfl rfl rfl (rd_shr _ rfl rfl (by omega) (shr_32 _ 16 (by omega))) ?_
        refine ws_l rfl rfl rfl rfl (rd_conv rfl (run_conv_int _ Tryz.underlying149 Tryz.underlying5 (u32_8 _))) ?_
        refine ws_l rfl rfl rfl rfl (rd_move rfl) ?_
        refine ws_l rfl rfl rfl rfl (rd_shr _ rfl rfl (by omega) (shr_32 _ 8 (by omega))) ?_
        refine ws_l rfl rfl rfl rfl (rd_conv rfl (run_conv_int _ Tryz.underlying149 Tryz.underlying5 (u32_8 _))) ?_
        refine ws_l rfl rfl rfl rfl (rd_move rfl) ?_
        refine ws_l rfl rfl rfl rfl (rd_conv rfl (run_conv_int _ Tryz.underlying149 Tryz.underlying5 (u32_8 _))) ?_
        refine ws_l rfl rfl rfl rfl (rd_ixArr (4 * i) rfl rfl Tryz.underlying161 Tryz.sizeOf5 ⟨by omega, by omega⟩ (by rw [Int.toNat_natCast, Nat.mul_one, Nat.zero_add])) ?_
        refine ws_store rfl rfl rfl rfl (by first | exact .inl (by assumption) | exact .inr (by simp)) (fun _ h _ => by first | (cases h; done) | exact List.mem_cons_of_mem _ h | exact List.mem_cons_of_mem _ (List.mem_cons_of_mem _ h) | (simp at h ⊢; simp [h])) ?_
        refine ws_l rfl rfl rfl rfl (rd_ixArr (4 * i + 1) rfl rfl Tryz.underlying161 Tryz.sizeOf5 ⟨by omega, by omega⟩ (by rw [Int.toNat_natCast, Nat.mul_one, Nat.zero_add])) ?_
        refine ws_store rfl rfl rfl rfl (by first | exact .inl (by assumption) | exact .inr (by simp)) (fun _ h _ => by first | (cases h; done) | exact List.mem_cons_of_mem _ h | exact List.mem_cons_of_mem _ (List.mem_cons_of_mem _ h) | (simp at h ⊢; simp [h])) ?_
        refine ws_l rfl rfl rfl rfl (rd_ixArr (4 * i + 2) rfl rfl Tryz.underlying161 Tryz.sizeOf5 ⟨by omega, by omega⟩ (by rw [Int.toNat_natCast, Nat.mul_one, Nat.zero_add])) ?_
        refine ws_store rfl rfl rfl rfl (by first | exact .inl (by assumption) | exact .inr (by simp)) (fun _ h _ => by first | (cases h; done) | exact List.mem_cons_of_mem _ h | exact List.mem_cons_of_mem _ (List.mem_cons_of_mem _ h) | (simp at h ⊢; simp [h])) ?_
        refine ws_l rfl rfl rfl rfl (rd_ixArr (4 * i + 3) rfl rfl Tryz.underlying161 Tryz.sizeOf5 ⟨by omega, by omega⟩ (by rw [Int.toNat_natCast, Nat.mul_one, Nat.zero_add])) ?_
        refine ws_store rfl rfl rfl rfl (by first | exact .inl (by assumption) | exact .inr (by simp)) (fun _ h _ => by first | (cases h; done) | exact List.mem_cons_of_mem _ h | exact List.mem_cons_of_mem _ (List.mem_cons_of_mem _ h) | (simp at h ⊢; simp [h])) ?_
        refine ws_nil ?_
        refine qe_block ?_
        refine qe_then ?_
        refine wc_plain [(0, .x true), (1, .x true)] (by kernel_rfl) ?_
        refine ws_l rfl rfl rfl rfl (rd_arith (((i + 1 : Nat) : Nat) : Int) rfl rfl rfl (by rw [wrap_i64 _ (by omega) (by omega)]; omega)) ?_
        refine ws_l rfl rfl rfl rfl (rd_move rfl) ?_
        refine ws_nil ?_
        exact qe_loop fun ac2 w2 hs2 => ⟨_, by (simp only [cmpP] at h70; omega), i + 1, _, rfl, (by simp only [cmpP] at h70; omega), (rfl), st_sub hs2 _ rfl⟩
      · intro h70
        refine ws_nil ?_
        refine qe_then ?_
        refine wc_seq ?_
        refine wc_false rfl ?_
        refine wc_exit ?_
        refine qe_then_exit ?_
        refine qe_then_exit ?_
        refine qe_block_exit ?_
        refine qe_then ?_
        refine wc_seq ?_
        refine wc_plain [(0, .x true), (1, .x true)] (by kernel_rfl) ?_
        refine ws_l rfl rfl rfl rfl (rd_load rfl) ?_
        refine ws_store rfl rfl rfl rfl (by first | exact .inl (by assumption) | exact .inr (by simp)) (fun _ h _ => by first | (cases h; done) | exact List.mem_cons_of_mem _ h | exact List.mem_cons_of_mem _ (List.mem_cons_of_mem _ h) | (simp at h ⊢; simp [h])) ?_
        refine ws_nil ?_
        refine qe_then ?_
        refine wc_keep [(2, _)] rfl ?_
        refine wc_ret ?_
        refine qe_body _ (.inl rfl) (res1 rfl (RV.cell rfl)) ?_
        obtain rfl : i = 8 := by simp only [cmpP] at h70; omega
        exact ret_end fun w hp hn ho => rfl

end Go.Proofs.YtheioljidangkaaGreat
