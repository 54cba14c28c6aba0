/- Walks: a nil keyring. No conditions. -/
import Derived.Test.YtheioljidangkaaGreatW10
import Derived.Test.YtheioljidangkaaGreatYx
namespace Go.Proofs.YtheioljidangkaaGreat
open Go Go.RowKit Go.Sx
set_option linter.unusedSimpArgs false
set_option linter.unusedVariables false

section
variable {P : Program} {σ : Slots} {φ : Heap} {dst : Option Tmp} {ty : TypeId} {pos : String} {aft : Array Edge} {g : Option (Nat × Bool)}
theorem rd_strix {T : TypeId} {x ix : Operand} {s : ByteArray} {kd : IntKind} {v : UInt8} (hx : ev σ x = some (.string s)) (hi : ev σ ix = some (.int kd 0)) (hT : P.underlying T = some .string) (hv : s.data[0]? = some v) : Rd P σ φ ⟨dst, .index T x ix, ty, pos, aft, g⟩ (u8v v) := fun a w hs _ => by
  have h0 : 0 < s.data.size := (Array.getElem?_eq_some_iff.1 hv).1
  have h1 : s.data[0] = v := (Array.getElem?_eq_some_iff.1 hv).2
  have h2 : 0 < s.size := h0
  subst h1
  simp [execOp, hs.ev hx, hs.ev hi, Instr.index, asIntOf, run_underlying hT, h2, u8v]
  rfl
theorem rd_nil_ptr {T U E : TypeId} {x y : Operand} {A : Addr} (hx : ev σ x = some (.pointer none)) (hy : ev σ y = some (.pointer (some A))) (hT : P.underlying T = some (.pointer E)) : Rd P σ φ ⟨dst, .binOp .eql T x y U, ty, pos, aft, g⟩ (.bool false) :=
  rd_bin hx hy fun w => by
    have h : ∀ d, (Op.equalIn (d + 1) T (.pointer none) (.pointer (some A))).run P w = .ok false w := fun d => by simp [Op.equalIn, run_underlying hT]
    have h' : (Op.equal T (.pointer none) (.pointer (some A))).run P w = .ok false w := h 9999
    simp [eqGuard, binOp, h']
end
set_option maxRecDepth 100000 in
set_option maxHeartbeats 1000000 in
theorem vals_iter (c : Nat) : Iter Tryz.prog 69 [ptr c] (idK (n := 32)) [] (fun _ φ => (c, Obj.cells #[.slice none 0 0] 42 (0, 0)) ∈ φ) := by
  intro lp J X ν φ w hy hJ hη hnd hneed
  have hmc : HM c (.cells #[.slice none 0 0] 42 (0, 0)) (ν ++ φ) := ⟨List.mem_append_right _ hneed⟩
  refine enter (n := 16) (args := [.func (.yield lp) #[] #[], ptr c]) (ν.map Prod.fst) (ν ++ φ) Tryz.func69 rfl rfl rfl hη hnd ?_
  refine wc_seq ?_
  refine wc_plain [(0, .x true), (1, .x true), (2, .x true)] (by kernel_rfl) ?_
  refine ws_l rfl rfl rfl rfl (rd_load rfl) ?_
  refine ws_l rfl rfl rfl rfl (rd_len rfl Tryz.underlying42) ?_
  refine ws_l rfl rfl rfl rfl (rd_move rfl) ?_
  refine ws_nil ?_
  refine qe_then ?_
  refine wc_block ?_
  refine wc_loop (fun mz ac w1 => ∃ (z : Unit), mz = 0 ∧ St 16 w (ν.map Prod.fst) [(6, I 0), (7, I 0)] (ν ++ φ) ac w1) _ (fun ac w1 hs => ⟨(), rfl, st_sub hs _ rfl⟩) ?_
  rintro _ ac1 wl1 ⟨z, rfl, hs1⟩
  refine wc_at hs1 ?_
  refine wc_seq ?_
  refine wc_plain [(0, .x true)] (by kernel_rfl) ?_
  refine ws_l rfl rfl rfl rfl (rd_cmp_f rfl rfl rfl (by simp [cmpP])) ?_
  refine ws_nil ?_
  refine qe_then ?_
  refine wc_seq ?_
  refine wc_false rfl ?_
  refine wc_exit ?_
  refine qe_then_exit ?_
  refine qe_then_exit ?_
  refine qe_block_exit ?_
  refine qe_body _ (.inr rfl) (res0 rfl) ?_
  exact ret_end fun w hp hn ho => ⟨ν, hp.mono (fun q hq => List.mem_append_left _ hq), (by rw [List.map_append, List.nodup_append] at hn; exact hn.1), fun b hb => .inr hb, .inl hJ⟩
set_option maxRecDepth 100000 in
set_option maxHeartbeats 1000000 in
theorem values_nil (w : World) : Ret Tryz.prog 53 [.slice none 0 0] w [] (fun v w' => ∃ c, v = .func (.func 69) #[] #[ptr c] ∧ w.heap.size ≤ c ∧ HpOK [(c, Obj.cells #[.slice none 0 0] 42 (0, 0))] w') := by
  refine enter (n := 4) (args := [.slice none 0 0]) [] [] Tryz.func53 rfl rfl rfl (HpOK.nil w) (by simp) ?_
  refine wc_seq ?_
  refine wc_plain [(0, .x true), (1, .x true)] (by kernel_rfl) ?_
  refine ws_box rfl rfl rfl rfl ?_
  intro b1 hb1
  refine ws_l rfl rfl rfl rfl (rd_assign rfl) ?_
  refine ws_nil ?_
  refine qe_then ?_
  refine wc_seq ?_
  refine wc_plain [(0, .x true), (1, .x true)] (by kernel_rfl) ?_
  refine ws_l rfl rfl rfl rfl (rd_mkfunc rfl rfl) ?_
  refine ws_l rfl rfl rfl rfl (rd_assign rfl) ?_
  refine ws_nil ?_
  refine qe_then ?_
  refine wc_ret ?_
  refine qe_body _ (.inl rfl) (res1 rfl (RV.tmp rfl)) ?_
  exact ret_end fun w hp hn ho => ⟨b1, rfl, hb1, hp⟩
set_option maxRecDepth 100000 in
set_option maxHeartbeats 1000000 in
theorem appseq_nil (c : Nat) (w : World) (hη : HpOK [(c, Obj.cells #[.slice none 0 0] 42 (0, 0))] w) : Ret Tryz.prog 88 [.slice none 0 0, .func (.func 69) #[] #[ptr c]] w [] (fun v _ => v = .slice none 0 0) := by
  refine enterM (n := 13) (args := [.slice none 0 0, .func (.func 69) #[] #[ptr c]]) [] [(c, Obj.cells #[.slice none 0 0] 42 (0, 0))] Tryz.func88 rfl rfl rfl hη (by simp) ?_
  refine wc_seq ?_
  refine wc_plain [(0, .x true), (1, .x true)] (by kernel_rfl) ?_
  refine ws_box rfl rfl rfl rfl ?_
  intro b2 hb2
  refine ws_l rfl rfl rfl rfl (rd_assign rfl) ?_
  refine ws_nil ?_
  refine qe_then ?_
  refine wc_seq ?_
  refine wc_seq ?_
  refine wc_plain [(0, .x true)] (by kernel_rfl) ?_
  refine ws_l rfl rfl rfl rfl (rd_move rfl) ?_
  refine ws_nil ?_
  refine qe_then ?_
  refine wc_block ?_
  refine wc_range ([]) (((b2, Obj.cells #[.slice none 0 0] 42 (0, 0)) :: [(c, Obj.cells #[.slice none 0 0] 42 (0, 0))])) (fun _ ν => ν = []) (fun _ _ _ => False) rfl (En.go) rfl rfl (fun b hb => by simp at hb) rfl (vals_iter c) (fun ζ hζ => by simp) ?_ ?_ ?_
  · intro mk D lp pre x rest νr wr hrec hxs hJr hfr hw1
    exact absurd hxs (by simp)
  · intro D νr hD hJr hfr
    subst hJr
    simp only [List.nil_append]
    refine qe_block ?_
    refine qe_then ?_
    refine wc_seq ?_
    refine wc_plain [(0, .x true), (1, .x true)] (by kernel_rfl) ?_
    refine ws_l rfl rfl rfl rfl (rd_load rfl) ?_
    refine ws_l rfl rfl rfl rfl (rd_assign rfl) ?_
    refine ws_nil ?_
    refine qe_then ?_
    refine wc_keep [(4, _)] rfl ?_
    refine wc_ret ?_
    refine qe_bodyM1 rfl hD _ (.inl rfl) (res1 rfl (RV.tmp rfl)) ?_
    exact ret_end fun w hp hn ho => rfl
  · intro D pre rest c νr hD hxs hXr hfr
    exact hXr.elim
set_option maxRecDepth 100000 in
set_option maxHeartbeats 1000000 in
theorem collect_nil (c : Nat) (w : World) (hη : HpOK [(c, Obj.cells #[.slice none 0 0] 42 (0, 0))] w) : Ret Tryz.prog 67 [.func (.func 69) #[] #[ptr c]] w [] (fun v _ => v = .slice none 0 0) := by
  refine enter (n := 5) (args := [.func (.func 69) #[] #[ptr c]]) [] [(c, Obj.cells #[.slice none 0 0] 42 (0, 0))] Tryz.func67 rfl rfl rfl hη (by simp) ?_
  refine wc_seq ?_
  refine wc_plain [(0, .x true)] (by kernel_rfl) ?_
  refine ws_l rfl rfl rfl rfl (rd_assign rfl) ?_
  refine ws_nil ?_
  refine qe_then ?_
  refine wc_seq ?_
  refine wc_plain [(0, .x true), (1, .x true), (2, .x true)] (by kernel_rfl) ?_
  refine ws_l rfl rfl rfl rfl (rd_move rfl) ?_
  refine ws_callp rfl rfl rfl rfl rfl (En.go) (fun w hp hn ho => appseq_nil c w (hp.mono SubH.mem)) ?_
  refine ws_l rfl rfl rfl rfl (rd_assign rfl) ?_
  refine ws_nil ?_
  refine qe_then ?_
  refine wc_ret ?_
  refine qe_body _ (.inl rfl) (res1 rfl (RV.tmp rfl)) ?_
  exact ret_end fun w hp hn ho => rfl
set_option maxRecDepth 100000 in
set_option maxHeartbeats 1000000 in
theorem len64_0 (w : World) : Ret Tryz.prog 82 [.int .u64 0] w [] (fun v _ => v = I 0) := by
  refine enter (n := 25) (args := [.int .u64 0]) [] [] Tryz.func82 rfl rfl rfl (HpOK.nil w) (by simp) ?_
  refine wc_seq ?_
  refine wc_plain [(0, .x true)] (by kernel_rfl) ?_
  refine ws_l rfl rfl rfl rfl (rd_assign rfl) ?_
  refine ws_nil ?_
  refine qe_then ?_
  refine wc_seq ?_
  refine wc_seq ?_
  refine wc_plain [(0, .x true), (1, .x true)] (by kernel_rfl) ?_
  refine ws_l rfl rfl rfl rfl (rd_move rfl) ?_
  refine ws_l rfl rfl rfl rfl (rd_cmp_f rfl rfl rfl (by simp [cmpP])) ?_
  refine ws_nil ?_
  refine qe_then ?_
  refine wc_false rfl ?_
  refine wc_skip ?_
  refine qe_then ?_
  refine wc_seq ?_
  refine wc_seq ?_
  refine wc_plain [(0, .x true), (1, .x true)] (by kernel_rfl) ?_
  refine ws_l rfl rfl rfl rfl (rd_move rfl) ?_
  refine ws_l rfl rfl rfl rfl (rd_cmp_f rfl rfl rfl (by simp [cmpP])) ?_
  refine ws_nil ?_
  refine qe_then ?_
  refine wc_false rfl ?_
  refine wc_skip ?_
  refine qe_then ?_
  refine wc_seq ?_
  refine wc_seq ?_
  refine wc_plain [(0, .x true), (1, .x true)] (by kernel_rfl) ?_
  refine ws_l rfl rfl rfl rfl (rd_move rfl) ?_
  refine ws_l rfl rfl rfl rfl (rd_cmp_f rfl rfl rfl (by simp [cmpP])) ?_
  refine ws_nil ?_
  refine qe_then ?_
  refine wc_keep [(0, _), (2, _), (14, _)] rfl ?_
  refine wc_false rfl ?_
  refine wc_skip ?_
  refine qe_then ?_
  refine wc_seq ?_
  refine wc_plain [(0, .x true), (1, .x true), (2, .x true), (3, .x true), (4, .x true), (5, .x true), (6, .x true)] (by kernel_rfl) ?_
  refine ws_l rfl rfl rfl rfl (rd_move rfl) ?_
  refine ws_l rfl rfl rfl rfl (rd_move rfl) ?_
  refine ws_l rfl rfl rfl rfl (rd_conv rfl (run_conv_int 0 (by first | exact Tryz.underlying126 | exact Tryz.underlying151 | exact Tryz.underlying163) Tryz.underlying5 (by decide))) ?_
  refine ws_l rfl rfl rfl rfl (rd_strix (v := 0) rfl rfl Tryz.underlying9 (by rfl)) ?_
  refine ws_l rfl rfl rfl rfl (rd_conv rfl (run_conv_int 0 Tryz.underlying5 Tryz.underlying3 (by decide))) ?_
  refine ws_l rfl rfl rfl rfl (rd_arith 0 rfl rfl rfl (by decide)) ?_
  refine ws_l rfl rfl rfl rfl (rd_assign rfl) ?_
  refine ws_nil ?_
  refine qe_then ?_
  refine wc_keep [(2, _)] rfl ?_
  refine wc_ret ?_
  refine qe_body _ (.inl rfl) (res1 rfl (RV.tmp rfl)) ?_
  exact ret_end fun w hp hn ho => rfl
set_option maxRecDepth 100000 in
set_option maxHeartbeats 1000000 in
theorem ins_nil (w : World) : Ret Tryz.prog 96 [.slice none 0 0, I 0, I 0, .func (.func 54) #[] #[]] w [] (fun v _ => True) := by
  refine enter (n := 53) (args := [.slice none 0 0, I 0, I 0, .func (.func 54) #[] #[]]) [] [] Tryz.func96 rfl rfl rfl (HpOK.nil w) (by simp) ?_
  refine wc_seq ?_
  refine wc_plain [(0, .x true), (1, .x true), (2, .x true)] (by kernel_rfl) ?_
  refine ws_l rfl rfl rfl rfl (rd_move rfl) ?_
  refine ws_l rfl rfl rfl rfl (rd_arith 1 rfl rfl rfl (by decide)) ?_
  refine ws_l rfl rfl rfl rfl (rd_assign rfl) ?_
  refine ws_nil ?_
  refine qe_then ?_
  refine wc_block ?_
  refine wc_loop (fun mz ac w1 => ∃ (z : Unit), mz = 0 ∧ St 53 w [] [(2, I 0), (8, I 1)] [] ac w1) _ (fun ac w1 hs => ⟨(), rfl, st_sub hs _ rfl⟩) ?_
  rintro _ ac1 wl1 ⟨z, rfl, hs1⟩
  refine wc_at hs1 ?_
  refine wc_seq ?_
  refine wc_seq ?_
  refine wc_plain [(0, .x true), (1, .x true), (2, .x true)] (by kernel_rfl) ?_
  refine ws_l rfl rfl rfl rfl (rd_move rfl) ?_
  refine ws_l rfl rfl rfl rfl (rd_move rfl) ?_
  refine ws_l rfl rfl rfl rfl (rd_cmp_f rfl rfl rfl (by simp [cmpP])) ?_
  refine ws_nil ?_
  refine qe_then ?_
  refine wc_false rfl ?_
  refine wc_exit ?_
  refine qe_then_exit ?_
  refine qe_then_exit ?_
  refine qe_block_exit ?_
  refine qe_body _ (.inr rfl) (res0 rfl) ?_
  exact ret_end fun w hp hn ho => trivial
set_option maxRecDepth 100000 in
set_option maxHeartbeats 1000000 in
theorem pdq_nil (w : World) : Ret Tryz.prog 89 [.slice none 0 0, I 0, I 0, I 0, .func (.func 54) #[] #[]] w [] (fun v _ => True) := by
  refine enter (n := 148) (args := [.slice none 0 0, I 0, I 0, I 0, .func (.func 54) #[] #[]]) [] [] Tryz.func89 rfl rfl rfl (HpOK.nil w) (by simp) ?_
  refine wc_seq ?_
  refine wc_plain [(0, .x true)] (by kernel_rfl) ?_
  refine ws_l rfl rfl rfl rfl (rd_assign rfl) ?_
  refine ws_nil ?_
  refine qe_then ?_
  refine wc_seq ?_
  refine wc_plain [(0, .x true)] (by kernel_rfl) ?_
  refine ws_l rfl rfl rfl rfl (rd_assign rfl) ?_
  refine ws_nil ?_
  refine qe_then ?_
  refine wc_block ?_
  refine wc_loop (fun mz ac w1 => ∃ (z : Unit), mz = 0 ∧ St 148 w [] [(0, .slice none 0 0), (1, I 0), (2, I 0), (4, .func (.func 54) #[] #[])] [] ac w1) _ (fun ac w1 hs => ⟨(), rfl, st_sub hs _ rfl⟩) ?_
  rintro _ ac1 wl1 ⟨z, rfl, hs1⟩
  refine wc_at hs1 ?_
  refine wc_block ?_
  refine wc_seq ?_
  refine wc_plain [(0, .x true), (1, .x true), (2, .x true), (3, .x true)] (by kernel_rfl) ?_
  refine ws_l rfl rfl rfl rfl (rd_move rfl) ?_
  refine ws_l rfl rfl rfl rfl (rd_move rfl) ?_
  refine ws_l rfl rfl rfl rfl (rd_arith 0 rfl rfl rfl (by decide)) ?_
  refine ws_l rfl rfl rfl rfl (rd_assign rfl) ?_
  refine ws_nil ?_
  refine qe_then ?_
  refine wc_seq ?_
  refine wc_seq ?_
  refine wc_plain [(0, .x true), (1, .x true)] (by kernel_rfl) ?_
  refine ws_l rfl rfl rfl rfl (rd_move rfl) ?_
  refine ws_l rfl rfl rfl rfl (rd_cmp_t rfl rfl rfl (by simp [cmpP])) ?_
  refine ws_nil ?_
  refine qe_then ?_
  refine wc_true rfl ?_
  refine wc_seq ?_
  refine wc_plain [(0, .x true), (1, .x true), (2, .x true), (3, .x true), (4, .x true)] (by kernel_rfl) ?_
  refine ws_l rfl rfl rfl rfl (rd_move rfl) ?_
  refine ws_l rfl rfl rfl rfl (rd_move rfl) ?_
  refine ws_l rfl rfl rfl rfl (rd_move rfl) ?_
  refine ws_l rfl rfl rfl rfl (rd_move rfl) ?_
  refine ws_call rfl rfl rfl rfl rfl (En.go) (fun w hp hn ho => ins_nil w) (fun _ h => by cases h) (fun hh q h => by first | (cases h; done) | exact hh q h) ?_
  rintro v30 wa wb hpo hon hon2 hp1 -
  refine ⟨[], HpOK.nil _, by simp, by simp, ?_⟩
  simp only [List.nil_append]
  refine ws_nil ?_
  refine qe_then ?_
  refine wc_ret ?_
  refine qe_then_ret ?_
  refine qe_block_ret ?_
  refine qe_then_ret ?_
  refine qe_block_ret ?_
  refine qe_body _ (.inl rfl) (res0 rfl) ?_
  exact ret_end fun w hp hn ho => trivial
set_option maxRecDepth 100000 in
set_option maxHeartbeats 1000000 in
theorem bitslen_0 (w : World) : Ret Tryz.prog 58 [.int .u64 0] w [] (fun v _ => v = I 0) := by
  refine enter (n := 8) (args := [.int .u64 0]) [] [] Tryz.func58 rfl rfl rfl (HpOK.nil w) (by simp) ?_
  refine wc_seq ?_
  refine wc_plain [(0, .x true)] (by kernel_rfl) ?_
  refine ws_l rfl rfl rfl rfl (rd_assign rfl) ?_
  refine ws_nil ?_
  refine qe_then ?_
  refine wc_seq ?_
  refine wc_false rfl ?_
  refine wc_skip ?_
  refine qe_then ?_
  refine wc_seq ?_
  refine wc_plain [(0, .x true), (1, .x true), (2, .x true)] (by kernel_rfl) ?_
  refine ws_l rfl rfl rfl rfl (rd_move rfl) ?_
  refine ws_callp rfl rfl rfl rfl rfl (En.go) (fun w hp hn ho => len64_0 w) ?_
  refine ws_l rfl rfl rfl rfl (rd_assign rfl) ?_
  refine ws_nil ?_
  refine qe_then ?_
  refine wc_ret ?_
  refine qe_body _ (.inl rfl) (res1 rfl (RV.tmp rfl)) ?_
  exact ret_end fun w hp hn ho => rfl
set_option maxRecDepth 100000 in
set_option maxHeartbeats 1000000 in
theorem sort_nil (w : World) : Ret Tryz.prog 68 [.slice none 0 0, .func (.func 54) #[] #[]] w [] (fun v _ => True) := by
  refine enter (n := 14) (args := [.slice none 0 0, .func (.func 54) #[] #[]]) [] [] Tryz.func68 rfl rfl rfl (HpOK.nil w) (by simp) ?_
  refine wc_seq ?_
  refine wc_plain [(0, .x true), (1, .x true), (2, .x true)] (by kernel_rfl) ?_
  refine ws_l rfl rfl rfl rfl (rd_move rfl) ?_
  refine ws_l rfl rfl rfl rfl (rd_len rfl Tryz.underlying42) ?_
  refine ws_l rfl rfl rfl rfl (rd_assign rfl) ?_
  refine ws_nil ?_
  refine qe_then ?_
  refine wc_plain [(0, .x true), (1, .x true), (2, .x true), (3, .x true), (4, .x true), (5, .x true), (6, .x true)] (by kernel_rfl) ?_
  refine ws_l rfl rfl rfl rfl (rd_move rfl) ?_
  refine ws_l rfl rfl rfl rfl (rd_move rfl) ?_
  refine ws_l rfl rfl rfl rfl (rd_move rfl) ?_
  refine ws_l rfl rfl rfl rfl (rd_conv rfl (run_conv_int 0 Tryz.underlying3 (by first | exact Tryz.underlying126 | exact Tryz.underlying151 | exact Tryz.underlying163) (by decide))) ?_
  refine ws_callp rfl rfl rfl rfl rfl (En.go) (fun w hp hn ho => bitslen_0 w) ?_
  refine ws_l rfl rfl rfl rfl (rd_move rfl) ?_
  refine ws_call rfl rfl rfl rfl rfl (En.go) (fun w hp hn ho => pdq_nil w) (fun _ h => by cases h) (fun hh q h => by first | (cases h; done) | exact hh q h) ?_
  rintro v13 wa wb hpo hon hon2 hp1 -
  refine ⟨[], HpOK.nil _, by simp, by simp, ?_⟩
  simp only [List.nil_append]
  refine ws_nil ?_
  refine qe_body _ (.inr rfl) (res0 rfl) ?_
  exact ret_end fun w hp hn ho => trivial
set_option maxRecDepth 100000 in
set_option maxHeartbeats 1000000 in
theorem sorted_nil (c : Nat) (w : World) (hη : HpOK [(c, Obj.cells #[.slice none 0 0] 42 (0, 0))] w) : Ret Tryz.prog 52 [.func (.func 69) #[] #[ptr c], .func (.func 54) #[] #[]] w [] (fun v _ => v = .slice none 0 0) := by
  refine enter (n := 12) (args := [.func (.func 69) #[] #[ptr c], .func (.func 54) #[] #[]]) [] [(c, Obj.cells #[.slice none 0 0] 42 (0, 0))] Tryz.func52 rfl rfl rfl hη (by simp) ?_
  refine wc_seq ?_
  refine wc_plain [(0, .x true)] (by kernel_rfl) ?_
  refine ws_l rfl rfl rfl rfl (rd_assign rfl) ?_
  refine ws_nil ?_
  refine qe_then ?_
  refine wc_seq ?_
  refine wc_plain [(0, .x true), (1, .x true), (2, .x true)] (by kernel_rfl) ?_
  refine ws_l rfl rfl rfl rfl (rd_move rfl) ?_
  refine ws_callp rfl rfl rfl rfl rfl (En.go) (fun w hp hn ho => collect_nil c w (hp.mono SubH.mem)) ?_
  refine ws_l rfl rfl rfl rfl (rd_assign rfl) ?_
  refine ws_nil ?_
  refine qe_then ?_
  refine wc_seq ?_
  refine wc_plain [(0, .x true), (1, .x true), (2, .x true)] (by kernel_rfl) ?_
  refine ws_l rfl rfl rfl rfl (rd_move rfl) ?_
  refine ws_l rfl rfl rfl rfl (rd_move rfl) ?_
  refine ws_call rfl rfl rfl rfl rfl (En.go) (fun w hp hn ho => sort_nil w) (fun _ h => by cases h) (fun hh q h => by first | (cases h; done) | exact hh q h) ?_
  rintro v10 wa wb hpo hon hon2 hp1 -
  refine ⟨[], HpOK.nil _, by simp, by simp, ?_⟩
  simp only [List.nil_append]
  refine ws_nil ?_
  refine qe_then ?_
  refine wc_keep [(4, _), (5, _)] rfl ?_
  refine wc_seq ?_
  refine wc_plain [(0, .x true), (1, .x true)] (by kernel_rfl) ?_
  refine ws_l rfl rfl rfl rfl (rd_move rfl) ?_
  refine ws_l rfl rfl rfl rfl (rd_assign rfl) ?_
  refine ws_nil ?_
  refine qe_then ?_
  refine wc_ret ?_
  refine qe_body _ (.inl rfl) (res1 rfl (RV.tmp rfl)) ?_
  exact ret_end fun w hp hn ho => rfl
set_option maxRecDepth 100000 in
set_option maxHeartbeats 1000000 in
theorem compact_nil (w : World) : Ret Tryz.prog 51 [.slice none 0 0] w [] (fun v _ => v = .slice none 0 0) := by
  refine enter (n := 61) (args := [.slice none 0 0]) [] [] Tryz.func51 rfl rfl rfl (HpOK.nil w) (by simp) ?_
  refine wc_seq ?_
  refine wc_plain [(0, .x true)] (by kernel_rfl) ?_
  refine ws_l rfl rfl rfl rfl (rd_assign rfl) ?_
  refine ws_nil ?_
  refine qe_then ?_
  refine wc_seq ?_
  refine wc_seq ?_
  refine wc_plain [(0, .x true), (1, .x true), (2, .x true)] (by kernel_rfl) ?_
  refine ws_l rfl rfl rfl rfl (rd_move rfl) ?_
  refine ws_l rfl rfl rfl rfl (rd_len rfl Tryz.underlying42) ?_
  refine ws_l rfl rfl rfl rfl (rd_cmp_t rfl rfl rfl (by simp [cmpP])) ?_
  refine ws_nil ?_
  refine qe_then ?_
  refine wc_true rfl ?_
  refine wc_seq ?_
  refine wc_plain [(0, .x true), (1, .x true)] (by kernel_rfl) ?_
  refine ws_l rfl rfl rfl rfl (rd_move rfl) ?_
  refine ws_l rfl rfl rfl rfl (rd_assign rfl) ?_
  refine ws_nil ?_
  refine qe_then ?_
  refine wc_ret ?_
  refine qe_then_ret ?_
  refine qe_body _ (.inl rfl) (res1 rfl (RV.tmp rfl)) ?_
  exact ret_end fun w hp hn ho => rfl
set_option maxRecDepth 100000 in
set_option maxHeartbeats 1000000 in
theorem set_nil (w : World) : Ret Tryz.prog 32 [.slice none 0 0] w [] (fun v _ => v = .slice none 0 0) := by
  refine enter (n := 7) (args := [.slice none 0 0]) [] [] Tryz.func32 rfl rfl rfl (HpOK.nil w) (by simp) ?_
  refine wc_seq ?_
  refine wc_plain [(0, .x true)] (by kernel_rfl) ?_
  refine ws_l rfl rfl rfl rfl (rd_assign rfl) ?_
  refine ws_nil ?_
  refine qe_then ?_
  refine wc_seq ?_
  refine wc_plain [(0, .x true), (1, .x true), (2, .x true), (3, .x true), (4, .x true)] (by kernel_rfl) ?_
  refine ws_l rfl rfl rfl rfl (rd_move rfl) ?_
  refine ws_call rfl rfl rfl rfl rfl (En.go) (fun w hp hn ho => values_nil w) (fun _ h => by cases h) (fun hh q h => by first | (cases h; done) | exact hh q h) ?_
  rintro v4 wa wb hpo hon hon2 hp1 ⟨c, rfl, hc0, hc⟩
  refine ⟨[(c, Obj.cells #[.slice none 0 0] 42 (0, 0))], hc, by simp, fun b hb => .inl (by simp at hb; subst hb; exact hc0), ?_⟩
  replace hc0 := Nat.le_trans hon.size hc0
  simp only [List.cons_append, List.nil_append]
  refine ws_callp rfl rfl rfl rfl rfl (En.go) (fun w hp hn ho => sorted_nil c w (hp.mono SubH.mem)) ?_
  refine ws_callp rfl rfl rfl rfl rfl (En.go) (fun w hp hn ho => compact_nil w) ?_
  refine ws_l rfl rfl rfl rfl (rd_assign rfl) ?_
  refine ws_nil ?_
  refine qe_then ?_
  refine wc_keep [(2, _)] rfl ?_
  refine wc_ret ?_
  refine qe_body _ (.inl rfl) (res1 rfl (RV.tmp rfl)) ?_
  exact ret_end fun w hp hn ho => rfl
set_option maxRecDepth 100000 in
set_option maxHeartbeats 1000000 in
theorem key_nil (a : Au) (n : Int) (w : World) : Ret Tryz.prog 10 [.pointer none, idK a, I n] w [] (fun v _ => v = .tuple #[kkK kk0, .bool false]) := by
  refine enter (n := 19) (args := [.pointer none, idK a, I n]) [] [] Tryz.func10 rfl rfl rfl (HpOK.nil w) (by simp) ?_
  refine wc_seq ?_
  refine wc_plain [(0, .x true), (1, .x true), (2, .x true), (3, .x true)] (by kernel_rfl) ?_
  refine ws_box rfl rfl rfl rfl ?_
  intro b4 hb4
  refine ws_box rfl rfl rfl rfl ?_
  intro b5 hb5
  refine ws_alloc rfl rfl rfl ?_
  intro b6 hb6
  refine ws_l rfl rfl rfl rfl (rd_assign rfl) ?_
  refine ws_nil ?_
  refine qe_then ?_
  refine wc_seq ?_
  refine wc_seq ?_
  refine wc_plain [(0, .x true), (1, .x true)] (by kernel_rfl) ?_
  refine ws_l rfl rfl rfl rfl (rd_move rfl) ?_
  refine ws_l rfl rfl rfl rfl (rd_nil_nil rfl rfl Tryz.underlying24 rfl) ?_
  refine ws_nil ?_
  refine qe_then ?_
  refine wc_true rfl ?_
  refine wc_seq ?_
  refine wc_plain [(0, .x true), (1, .x true), (2, .x true)] (by kernel_rfl) ?_
  refine ws_l rfl rfl rfl rfl (rd_build rfl) ?_
  refine ws_store rfl rfl rfl rfl (by first | exact .inl (by assumption) | exact .inr (by simp)) (fun _ h _ => by first | (cases h; done) | exact List.mem_cons_of_mem _ h | exact List.mem_cons_of_mem _ (List.mem_cons_of_mem _ h) | (simp at h ⊢; simp [h])) ?_
  refine ws_l rfl rfl rfl rfl (rd_assign rfl) ?_
  refine ws_nil ?_
  refine qe_then ?_
  refine wc_keep [(0, _), (4, _), (5, _), (6, _), (7, _)] rfl ?_
  refine wc_ret ?_
  refine qe_then_ret ?_
  refine qe_body _ (.inl rfl) (res2 rfl (RV.cell rfl) (RV.tmp rfl)) ?_
  exact ret_end fun w hp hn ho => rfl
set_option maxRecDepth 100000 in
set_option maxHeartbeats 1000000 in
theorem add_nil (i : Id) (x : CT) (y : CM) (w : World) : Ret Tryz.prog 16 [.pointer none, idK i, ctK x, cmK y] w [] (fun v _ => v = I 1) := by
  refine enter (n := 44) (args := [.pointer none, idK i, ctK x, cmK y]) [] [] Tryz.func16 rfl rfl rfl (HpOK.nil w) (by simp) ?_
  refine wc_seq ?_
  refine wc_plain [(0, .x true), (1, .x true), (2, .x true), (3, .x true)] (by kernel_rfl) ?_
  refine ws_box rfl rfl rfl rfl ?_
  intro b5 hb5
  refine ws_box rfl rfl rfl rfl ?_
  intro b6 hb6
  refine ws_box rfl rfl rfl rfl ?_
  intro b7 hb7
  refine ws_l rfl rfl rfl rfl (rd_assign rfl) ?_
  refine ws_nil ?_
  refine qe_then ?_
  refine wc_seq ?_
  refine wc_seq ?_
  refine wc_plain [(0, .x true), (1, .x true)] (by kernel_rfl) ?_
  refine ws_l rfl rfl rfl rfl (rd_move rfl) ?_
  refine ws_l rfl rfl rfl rfl (rd_nil_nil rfl rfl Tryz.underlying24 rfl) ?_
  refine ws_nil ?_
  refine qe_then ?_
  refine wc_true rfl ?_
  refine wc_seq ?_
  refine wc_plain [(0, .x true)] (by kernel_rfl) ?_
  refine ws_l rfl rfl rfl rfl (rd_assign rfl) ?_
  refine ws_nil ?_
  refine qe_then ?_
  refine wc_keep [(0, _), (5, _), (6, _), (7, _), (8, _)] rfl ?_
  refine wc_ret ?_
  refine qe_then_ret ?_
  refine qe_body _ (.inl rfl) (res1 rfl (RV.tmp rfl)) ?_
  exact ret_end fun w hp hn ho => rfl
set_option maxRecDepth 100000 in
set_option maxHeartbeats 1000000 in
theorem has_nil (i : Id) (w : World) : Ret Tryz.prog 18 [.pointer none, idK i] w [] (fun v _ => v = .bool false) := by
  refine enter (n := 19) (args := [.pointer none, idK i]) [] [] Tryz.func18 rfl rfl rfl (HpOK.nil w) (by simp) ?_
  refine wc_seq ?_
  refine wc_plain [(0, .x true), (1, .x true)] (by kernel_rfl) ?_
  refine ws_box rfl rfl rfl rfl ?_
  intro b3 hb3
  refine ws_l rfl rfl rfl rfl (rd_assign rfl) ?_
  refine ws_nil ?_
  refine qe_then ?_
  refine wc_seq ?_
  refine wc_seq ?_
  refine wc_plain [(0, .x true), (1, .x true)] (by kernel_rfl) ?_
  refine ws_l rfl rfl rfl rfl (rd_move rfl) ?_
  refine ws_l rfl rfl rfl rfl (rd_nil_nil rfl rfl Tryz.underlying24 rfl) ?_
  refine ws_nil ?_
  refine qe_then ?_
  refine wc_true rfl ?_
  refine wc_seq ?_
  refine wc_plain [(0, .x true)] (by kernel_rfl) ?_
  refine ws_l rfl rfl rfl rfl (rd_assign rfl) ?_
  refine ws_nil ?_
  refine qe_then ?_
  refine wc_ret ?_
  refine qe_then_ret ?_
  refine qe_body _ (.inl rfl) (res1 rfl (RV.tmp rfl)) ?_
  exact ret_end fun w hp hn ho => rfl
set_option maxRecDepth 100000 in
set_option maxHeartbeats 1000000 in
theorem len_nil (w : World) : Ret Tryz.prog 19 [.pointer none] w [] (fun v _ => v = I 0) := by
  refine enter (n := 10) (args := [.pointer none]) [] [] Tryz.func19 rfl rfl rfl (HpOK.nil w) (by simp) ?_
  refine wc_seq ?_
  refine wc_plain [(0, .x true)] (by kernel_rfl) ?_
  refine ws_l rfl rfl rfl rfl (rd_assign rfl) ?_
  refine ws_nil ?_
  refine qe_then ?_
  refine wc_seq ?_
  refine wc_seq ?_
  refine wc_plain [(0, .x true), (1, .x true)] (by kernel_rfl) ?_
  refine ws_l rfl rfl rfl rfl (rd_move rfl) ?_
  refine ws_l rfl rfl rfl rfl (rd_nil_nil rfl rfl Tryz.underlying24 rfl) ?_
  refine ws_nil ?_
  refine qe_then ?_
  refine wc_true rfl ?_
  refine wc_seq ?_
  refine wc_plain [(0, .x true)] (by kernel_rfl) ?_
  refine ws_l rfl rfl rfl rfl (rd_assign rfl) ?_
  refine ws_nil ?_
  refine qe_then ?_
  refine wc_ret ?_
  refine qe_then_ret ?_
  refine qe_body _ (.inl rfl) (res1 rfl (RV.tmp rfl)) ?_
  exact ret_end fun w hp hn ho => rfl
set_option maxRecDepth 100000 in
set_option maxHeartbeats 1000000 in
theorem chain_nil (a : Au) (w : World) : Ret Tryz.prog 14 [.pointer none, idK a] w [] (fun v _ => v = .slice none 0 0) := by
  refine enter (n := 13) (args := [.pointer none, idK a]) [] [] Tryz.func14 rfl rfl rfl (HpOK.nil w) (by simp) ?_
  refine wc_seq ?_
  refine wc_plain [(0, .x true), (1, .x true)] (by kernel_rfl) ?_
  refine ws_box rfl rfl rfl rfl ?_
  intro b3 hb3
  refine ws_l rfl rfl rfl rfl (rd_assign rfl) ?_
  refine ws_nil ?_
  refine qe_then ?_
  refine wc_seq ?_
  refine wc_seq ?_
  refine wc_plain [(0, .x true), (1, .x true)] (by kernel_rfl) ?_
  refine ws_l rfl rfl rfl rfl (rd_move rfl) ?_
  refine ws_l rfl rfl rfl rfl (rd_nil_nil rfl rfl Tryz.underlying24 rfl) ?_
  refine ws_nil ?_
  refine qe_then ?_
  refine wc_true rfl ?_
  refine wc_seq ?_
  refine wc_plain [(0, .x true)] (by kernel_rfl) ?_
  refine ws_l rfl rfl rfl rfl (rd_assign rfl) ?_
  refine ws_nil ?_
  refine qe_then ?_
  refine wc_ret ?_
  refine qe_then_ret ?_
  refine qe_body _ (.inl rfl) (res1 rfl (RV.tmp rfl)) ?_
  exact ret_end fun w hp hn ho => rfl
set_option maxRecDepth 100000 in
set_option maxHeartbeats 1000000 in
theorem judge_nil (a : Au) (n : Int) (p : Pub) (l : Int) (i : Id) (w : World) : Ret Tryz.prog 20 [.pointer none, idK a, I n, pubK p, I l, idK i] w [] (fun v _ => v = I 1) := by
  refine enter (n := 72) (args := [.pointer none, idK a, I n, pubK p, I l, idK i]) [] [] Tryz.func20 rfl rfl rfl (HpOK.nil w) (by simp) ?_
  refine wc_seq ?_
  refine wc_plain [(0, .x true), (1, .x true), (2, .x true), (3, .x true)] (by kernel_rfl) ?_
  refine ws_box rfl rfl rfl rfl ?_
  intro b7 hb7
  refine ws_box rfl rfl rfl rfl ?_
  intro b9 hb9
  refine ws_box rfl rfl rfl rfl ?_
  intro b11 hb11
  refine ws_l rfl rfl rfl rfl (rd_assign rfl) ?_
  refine ws_nil ?_
  refine qe_then ?_
  refine wc_seq ?_
  refine wc_seq ?_
  refine wc_plain [(0, .x true), (1, .x true)] (by kernel_rfl) ?_
  refine ws_l rfl rfl rfl rfl (rd_move rfl) ?_
  refine ws_l rfl rfl rfl rfl (rd_nil_nil rfl rfl Tryz.underlying24 rfl) ?_
  refine ws_nil ?_
  refine qe_then ?_
  refine wc_true rfl ?_
  refine wc_seq ?_
  refine wc_plain [(0, .x true)] (by kernel_rfl) ?_
  refine ws_l rfl rfl rfl rfl (rd_assign rfl) ?_
  refine ws_nil ?_
  refine qe_then ?_
  refine wc_keep [(0, _), (2, _), (4, _), (7, _), (9, _), (11, _), (12, _)] rfl ?_
  refine wc_ret ?_
  refine qe_then_ret ?_
  refine qe_body _ (.inl rfl) (res1 rfl (RV.tmp rfl)) ?_
  exact ret_end fun w hp hn ho => rfl
set_option maxRecDepth 100000 in
set_option maxHeartbeats 1000000 in
theorem authors_nil (w : World) : Ret Tryz.prog 21 [.pointer none] w [] (fun v _ => v = .slice none 0 0) := by
  refine enter (n := 25) (args := [.pointer none]) [] [] Tryz.func21 rfl rfl rfl (HpOK.nil w) (by simp) ?_
  refine wc_seq ?_
  refine wc_plain [(0, .x true)] (by kernel_rfl) ?_
  refine ws_l rfl rfl rfl rfl (rd_assign rfl) ?_
  refine ws_nil ?_
  refine qe_then ?_
  refine wc_seq ?_
  refine wc_seq ?_
  refine wc_plain [(0, .x true), (1, .x true)] (by kernel_rfl) ?_
  refine ws_l rfl rfl rfl rfl (rd_move rfl) ?_
  refine ws_l rfl rfl rfl rfl (rd_nil_nil rfl rfl Tryz.underlying24 rfl) ?_
  refine ws_nil ?_
  refine qe_then ?_
  refine wc_true rfl ?_
  refine wc_seq ?_
  refine wc_plain [(0, .x true)] (by kernel_rfl) ?_
  refine ws_l rfl rfl rfl rfl (rd_assign rfl) ?_
  refine ws_nil ?_
  refine qe_then ?_
  refine wc_ret ?_
  refine qe_then_ret ?_
  refine qe_body _ (.inl rfl) (res1 rfl (RV.tmp rfl)) ?_
  exact ret_end fun w hp hn ho => rfl
set_option maxRecDepth 100000 in
set_option maxHeartbeats 1000000 in
theorem counting_nil (w : World) : Ret Tryz.prog 11 [.pointer none] w [] (fun v _ => v = .slice none 0 0) := by
  refine enter (n := 35) (args := [.pointer none]) [] [] Tryz.func11 rfl rfl rfl (HpOK.nil w) (by simp) ?_
  refine wc_seq ?_
  refine wc_plain [(0, .x true)] (by kernel_rfl) ?_
  refine ws_l rfl rfl rfl rfl (rd_assign rfl) ?_
  refine ws_nil ?_
  refine qe_then ?_
  refine wc_seq ?_
  refine wc_plain [(0, .x true)] (by kernel_rfl) ?_
  refine ws_l rfl rfl rfl rfl (rd_assign rfl) ?_
  refine ws_nil ?_
  refine qe_then ?_
  refine wc_seq ?_
  refine wc_seq ?_
  refine wc_plain [(0, .x true), (1, .x true), (2, .x true), (3, .x true)] (by kernel_rfl) ?_
  refine ws_l rfl rfl rfl rfl (rd_move rfl) ?_
  refine ws_callp rfl rfl rfl rfl rfl (En.go) (fun w hp hn ho => authors_nil w) ?_
  refine ws_l rfl rfl rfl rfl (rd_len rfl Tryz.underlying63) ?_
  refine ws_l rfl rfl rfl rfl (rd_move rfl) ?_
  refine ws_nil ?_
  refine qe_then ?_
  refine wc_block ?_
  refine wc_loop (fun mz ac w1 => ∃ (z : Unit), mz = 0 ∧ St 35 w [] [(3, .slice none 0 0), (10, I 0), (11, I 0)] [] ac w1) _ (fun ac w1 hs => ⟨(), rfl, st_sub hs _ rfl⟩) ?_
  rintro _ ac1 wl1 ⟨z, rfl, hs1⟩
  refine wc_at hs1 ?_
  refine wc_seq ?_
  refine wc_plain [(0, .x true)] (by kernel_rfl) ?_
  refine ws_l rfl rfl rfl rfl (rd_cmp_f rfl rfl rfl (by simp [cmpP])) ?_
  refine ws_nil ?_
  refine qe_then ?_
  refine wc_seq ?_
  refine wc_false rfl ?_
  refine wc_exit ?_
  refine qe_then_exit ?_
  refine qe_then_exit ?_
  refine qe_block_exit ?_
  refine qe_then ?_
  refine wc_seq ?_
  refine wc_plain [(0, .x true), (1, .x true), (2, .x true)] (by kernel_rfl) ?_
  refine ws_l rfl rfl rfl rfl (rd_move rfl) ?_
  refine ws_callp rfl rfl rfl rfl rfl (En.go) (fun w hp hn ho => set_nil w) ?_
  refine ws_l rfl rfl rfl rfl (rd_assign rfl) ?_
  refine ws_nil ?_
  refine qe_then ?_
  refine wc_keep [(2, _)] rfl ?_
  refine wc_ret ?_
  refine qe_body _ (.inl rfl) (res1 rfl (RV.tmp rfl)) ?_
  exact ret_end fun w hp hn ho => rfl
set_option maxRecDepth 100000 in
set_option maxHeartbeats 1000000 in
theorem merge_nil (q : Option Addr) (w : World) : Ret Tryz.prog 22 [.pointer none, .pointer q] w [] (fun v _ => v = I 1) := by
  refine enter (n := 53) (args := [.pointer none, .pointer q]) [] [] Tryz.func22 rfl rfl rfl (HpOK.nil w) (by simp) ?_
  refine wc_seq ?_
  refine wc_plain [(0, .x true)] (by kernel_rfl) ?_
  refine ws_l rfl rfl rfl rfl (rd_assign rfl) ?_
  refine ws_nil ?_
  refine qe_then ?_
  refine wc_seq ?_
  refine wc_seq ?_
  refine wc_plain [(0, .x true), (1, .x true), (2, .x true), (3, .x true), (4, .x true), (5, .x true)] (by kernel_rfl) ?_
  refine ws_l rfl rfl rfl rfl (rd_move rfl) ?_
  refine ws_l rfl rfl rfl rfl (rd_nil_nil rfl rfl Tryz.underlying24 rfl) ?_
  refine ws_l rfl rfl rfl rfl (rd_move rfl) ?_
  refine ws_xskip rfl rfl rfl rfl ?_
  refine ws_xskip rfl rfl rfl rfl ?_
  refine ws_l rfl rfl rfl rfl (rd_pick_t rfl rfl) ?_
  refine ws_nil ?_
  refine qe_then ?_
  refine wc_keep [(0, _), (1, _), (4, _), (15, _)] rfl ?_
  refine wc_true rfl ?_
  refine wc_seq ?_
  refine wc_plain [(0, .x true)] (by kernel_rfl) ?_
  refine ws_l rfl rfl rfl rfl (rd_assign rfl) ?_
  refine ws_nil ?_
  refine qe_then ?_
  refine wc_ret ?_
  refine qe_then_ret ?_
  refine qe_body _ (.inl rfl) (res1 rfl (RV.tmp rfl)) ?_
  exact ret_end fun w hp hn ho => rfl
set_option maxRecDepth 100000 in
set_option maxHeartbeats 1000000 in
theorem merge_nil2 (p : Nat) (w : World) : Ret Tryz.prog 22 [ptr p, .pointer none] w [] (fun v _ => v = I 1) := by
  refine enter (n := 53) (args := [ptr p, .pointer none]) [] [] Tryz.func22 rfl rfl rfl (HpOK.nil w) (by simp) ?_
  refine wc_seq ?_
  refine wc_plain [(0, .x true)] (by kernel_rfl) ?_
  refine ws_l rfl rfl rfl rfl (rd_assign rfl) ?_
  refine ws_nil ?_
  refine qe_then ?_
  refine wc_seq ?_
  refine wc_seq ?_
  refine wc_plain [(0, .x true), (1, .x true), (2, .x true), (3, .x true), (4, .x true), (5, .x true)] (by kernel_rfl) ?_
  refine ws_l rfl rfl rfl rfl (rd_move rfl) ?_
  refine ws_l rfl rfl rfl rfl (rd_ptr_nil rfl rfl Tryz.underlying24 rfl) ?_
  refine ws_l rfl rfl rfl rfl (rd_move rfl) ?_
  refine ws_l rfl rfl rfl rfl (rd_move rfl) ?_
  refine ws_l rfl rfl rfl rfl (rd_nil_nil rfl rfl Tryz.underlying24 rfl) ?_
  refine ws_l rfl rfl rfl rfl (rd_pick_f rfl rfl) ?_
  refine ws_nil ?_
  refine qe_then ?_
  refine wc_keep [(0, _), (1, _), (4, _), (15, _)] rfl ?_
  refine wc_true rfl ?_
  refine wc_seq ?_
  refine wc_plain [(0, .x true)] (by kernel_rfl) ?_
  refine ws_l rfl rfl rfl rfl (rd_assign rfl) ?_
  refine ws_nil ?_
  refine qe_then ?_
  refine wc_ret ?_
  refine qe_then_ret ?_
  refine qe_body _ (.inl rfl) (res1 rfl (RV.tmp rfl)) ?_
  exact ret_end fun w hp hn ho => rfl
set_option maxRecDepth 100000 in
set_option maxHeartbeats 1000000 in
theorem clone_nil (w : World) : Ret Tryz.prog 24 [.pointer none] w [] (fun v _ => v = .pointer none) := by
  refine enter (n := 22) (args := [.pointer none]) [] [] Tryz.func24 rfl rfl rfl (HpOK.nil w) (by simp) ?_
  refine wc_seq ?_
  refine wc_plain [(0, .x true)] (by kernel_rfl) ?_
  refine ws_l rfl rfl rfl rfl (rd_assign rfl) ?_
  refine ws_nil ?_
  refine qe_then ?_
  refine wc_seq ?_
  refine wc_seq ?_
  refine wc_plain [(0, .x true), (1, .x true)] (by kernel_rfl) ?_
  refine ws_l rfl rfl rfl rfl (rd_move rfl) ?_
  refine ws_l rfl rfl rfl rfl (rd_nil_nil rfl rfl Tryz.underlying24 rfl) ?_
  refine ws_nil ?_
  refine qe_then ?_
  refine wc_true rfl ?_
  refine wc_seq ?_
  refine wc_plain [(0, .x true)] (by kernel_rfl) ?_
  refine ws_l rfl rfl rfl rfl (rd_assign rfl) ?_
  refine ws_nil ?_
  refine qe_then ?_
  refine wc_ret ?_
  refine qe_then_ret ?_
  refine qe_body _ (.inl rfl) (res1 rfl (RV.tmp rfl)) ?_
  exact ret_end fun w hp hn ho => rfl
set_option maxRecDepth 100000 in
set_option maxHeartbeats 1000000 in
theorem equal_nil (w : World) : Ret Tryz.prog 25 [.pointer none, .pointer none] w [] (fun v _ => v = .bool true) := by
  refine enter (n := 23) (args := [.pointer none, .pointer none]) [] [] Tryz.func25 rfl rfl rfl (HpOK.nil w) (by simp) ?_
  refine wc_seq ?_
  refine wc_plain [(0, .x true)] (by kernel_rfl) ?_
  refine ws_l rfl rfl rfl rfl (rd_assign rfl) ?_
  refine ws_nil ?_
  refine qe_then ?_
  refine wc_seq ?_
  refine wc_seq ?_
  refine wc_plain [(0, .x true), (1, .x true), (2, .x true), (3, .x true), (4, .x true), (5, .x true)] (by kernel_rfl) ?_
  refine ws_l rfl rfl rfl rfl (rd_move rfl) ?_
  refine ws_l rfl rfl rfl rfl (rd_nil_nil rfl rfl Tryz.underlying24 rfl) ?_
  refine ws_l rfl rfl rfl rfl (rd_move rfl) ?_
  refine ws_xskip rfl rfl rfl rfl ?_
  refine ws_xskip rfl rfl rfl rfl ?_
  refine ws_l rfl rfl rfl rfl (rd_pick_t rfl rfl) ?_
  refine ws_nil ?_
  refine qe_then ?_
  refine wc_keep [(0, _), (1, _), (4, _), (10, _)] rfl ?_
  refine wc_true rfl ?_
  refine wc_seq ?_
  refine wc_plain [(0, .x true), (1, .x true), (2, .x true), (3, .x true)] (by kernel_rfl) ?_
  refine ws_l rfl rfl rfl rfl (rd_move rfl) ?_
  refine ws_l rfl rfl rfl rfl (rd_move rfl) ?_
  refine ws_l rfl rfl rfl rfl (rd_nil_nil rfl rfl Tryz.underlying24 rfl) ?_
  refine ws_l rfl rfl rfl rfl (rd_assign rfl) ?_
  refine ws_nil ?_
  refine qe_then ?_
  refine wc_ret ?_
  refine qe_then_ret ?_
  refine qe_body _ (.inl rfl) (res1 rfl (RV.tmp rfl)) ?_
  exact ret_end fun w hp hn ho => rfl
set_option maxRecDepth 100000 in
set_option maxHeartbeats 1000000 in
theorem equal_nil2 (p : Nat) (w : World) : Ret Tryz.prog 25 [.pointer none, ptr p] w [] (fun v _ => v = .bool false) := by
  refine enter (n := 23) (args := [.pointer none, ptr p]) [] [] Tryz.func25 rfl rfl rfl (HpOK.nil w) (by simp) ?_
  refine wc_seq ?_
  refine wc_plain [(0, .x true)] (by kernel_rfl) ?_
  refine ws_l rfl rfl rfl rfl (rd_assign rfl) ?_
  refine ws_nil ?_
  refine qe_then ?_
  refine wc_seq ?_
  refine wc_seq ?_
  refine wc_plain [(0, .x true), (1, .x true), (2, .x true), (3, .x true), (4, .x true), (5, .x true)] (by kernel_rfl) ?_
  refine ws_l rfl rfl rfl rfl (rd_move rfl) ?_
  refine ws_l rfl rfl rfl rfl (rd_nil_nil rfl rfl Tryz.underlying24 rfl) ?_
  refine ws_l rfl rfl rfl rfl (rd_move rfl) ?_
  refine ws_xskip rfl rfl rfl rfl ?_
  refine ws_xskip rfl rfl rfl rfl ?_
  refine ws_l rfl rfl rfl rfl (rd_pick_t rfl rfl) ?_
  refine ws_nil ?_
  refine qe_then ?_
  refine wc_keep [(0, _), (1, _), (4, _), (10, _)] rfl ?_
  refine wc_true rfl ?_
  refine wc_seq ?_
  refine wc_plain [(0, .x true), (1, .x true), (2, .x true), (3, .x true)] (by kernel_rfl) ?_
  refine ws_l rfl rfl rfl rfl (rd_move rfl) ?_
  refine ws_l rfl rfl rfl rfl (rd_move rfl) ?_
  refine ws_l rfl rfl rfl rfl (rd_nil_ptr rfl rfl Tryz.underlying24) ?_
  refine ws_l rfl rfl rfl rfl (rd_assign rfl) ?_
  refine ws_nil ?_
  refine qe_then ?_
  refine wc_ret ?_
  refine qe_then_ret ?_
  refine qe_body _ (.inl rfl) (res1 rfl (RV.tmp rfl)) ?_
  exact ret_end fun w hp hn ho => rfl

end Go.Proofs.YtheioljidangkaaGreat
