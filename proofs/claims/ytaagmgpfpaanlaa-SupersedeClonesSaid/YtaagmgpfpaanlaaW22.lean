/- Walk: Play. No conditions. -/
import Derived.Test.YtaagmgpfpaanlaaW21
namespace Go.Proofs.Ytaagmgpfpaanlaa
open Go Go.RowKit Go.Sx
set_option linter.unusedSimpArgs false
set_option linter.unusedVariables false

theorem dropO_of {own : List RR} {id : Id} (h : dropE own id ≠ 0) : dropO own id = own := dropO_out fun he => h (by rw [dropE, if_pos he])
set_option maxRecDepth 100000 in
set_option maxHeartbeats 4000000 in
theorem play_ret (v : Value) (φ : Heap) (ops : List SOp) (hsrc : Src φ v 83 ops.length (ops.flatMap opL)) (w : World) (hφ : HpOK φ w) (hnd : (φ.map Prod.fst).Nodup) : Ret Try.prog 22 [v] w [] (fun u w' => Played φ w w' u) := by
  refine enter (n := 70) (args := [v]) [] φ Try.func22 rfl rfl rfl hφ hnd ?_
  refine wc_seq ?_
  refine wc_plain [(0, .x true), (1, .x true), (2, .x true)] (by kernel_rfl) ?_
  refine ws_l rfl rfl rfl rfl (rd_assign rfl) ?_
  refine ws_l rfl rfl rfl rfl (rd_assign rfl) ?_
  refine ws_l rfl rfl rfl rfl (rd_assign rfl) ?_
  refine ws_nil ?_
  refine qe_then ?_
  refine wc_seq ?_
  refine wc_plain [(0, .x true), (1, .x true)] (by kernel_rfl) ?_
  refine ws_call rfl rfl rfl rfl rfl (En.go) (fun w hp hn ho => new_ret w) (fun _ h => by cases h) (fun hh q h => by first | (cases h; done) | exact hh q h) ?_
  rintro v7 wa wb hpo hon hon2 hp1 ⟨p, m, k, rfl, hpb, hmb, hkb, hpmk, hset⟩
  refine ⟨_, hset, by simpa using hpmk, fun b hb => .inl (by simp at hb; rcases hb with rfl | rfl | rfl; exact hpb; exact hmb; exact hkb), ?_⟩
  replace hpb := Nat.le_trans hon.size hpb
  replace hmb := Nat.le_trans hon.size hmb
  replace hkb := Nat.le_trans hon.size hkb
  simp only [List.cons_append, List.nil_append]
  refine ws_l rfl rfl rfl rfl (rd_assign rfl) ?_
  refine ws_nil ?_
  refine qe_then ?_
  refine wc_seq ?_
  refine wc_seq ?_
  refine wc_plain [(0, .x true)] (by kernel_rfl) ?_
  refine ws_l rfl rfl rfl rfl (rd_assign rfl) ?_
  refine ws_nil ?_
  refine qe_then ?_
  refine wc_block ?_
  refine wc_loop (fun mz ac w1 => ∃ (j : Nat) (es : Array MapEntry) (c : Nat) (ws : Array MapEntry) (d : Nat) (L : RMap) (W : WMap) (νs : Heap) (own : List RR) (v3 : Value) (ν3 : Heap), mz = 30 - j ∧ (j ≤ 30) ∧ (MapIs idK hrK es c L) ∧ (MapIs idK wvK ws d W) ∧ (SetOK νs L W own) ∧ (OwnR w.heap.size 46 82 v3 ν3 own.length (own.flatMap rrL)) ∧ (own.length ≤ j) ∧ (∀ b ∈ νs.map Prod.fst, w.heap.size ≤ b) ∧ St 70 w [] [(0, v), (2, ptr p), (3, v3), (5, I j)] (setC p m k es c ws d (νs ++ (ν3 ++ φ))) ac w1) _ (fun ac w1 hs => ⟨0, #[], 0, #[], 0, [], [], [], [], .slice none 0 0, [], rfl, (by omega), (MapIs.empty _ _ _), (MapIs.empty _ _ _), (SetOK.empty _), (OwnR.nil _ _ _), (by simp), (by simp), st_sub hs _ rfl⟩) ?_
  rintro _ ac1 wl1 ⟨j, es, c, ws, d, L, W, νs, own, v3, ν3, rfl, hj, hL, hW, hok, hown, hol, hfs, hs1⟩
  refine wc_at hs1 ?_
  refine wc_seq ?_
  refine wc_seq ?_
  refine wc_plain [(0, .x true), (1, .x true), (2, .x true), (3, .x true), (4, .x true), (5, .x true), (6, .x true), (7, .x true)] (by kernel_rfl) ?_
  refine ws_l rfl rfl rfl rfl (rd_move rfl) ?_
  refine ws_l rfl rfl rfl rfl (rd_move rfl) ?_
  refine ws_l rfl rfl rfl rfl (rd_lenS hsrc rfl Try.underlying53) ?_
  refine ws_lcmp rfl rfl rfl (rfl) (rfl) (rfl) ?_ ?_
  · intro h11
    refine ws_l rfl rfl rfl rfl (rd_move rfl) ?_
    refine ws_l rfl rfl rfl rfl (rd_move rfl) ?_
    refine ws_lcmp rfl rfl rfl (rfl) (rfl) (rfl) ?_ ?_
    · intro h14
      refine ws_l rfl rfl rfl rfl (rd_pick_t rfl rfl) ?_
      refine ws_nil ?_
      refine qe_then ?_
      refine wc_true rfl ?_
      refine wc_skip ?_
      refine qe_then ?_
      refine wc_seq ?_
      refine wc_block ?_
      refine wc_seq ?_
      refine wc_plain [(0, .x true)] (by kernel_rfl) ?_
      refine ws_l rfl rfl rfl rfl (rd_assign rfl) ?_
      refine ws_nil ?_
      refine qe_then ?_
      refine wc_seq ?_
      refine wc_seq ?_
      refine wc_plain [(0, .x true), (1, .x true), (2, .x true), (3, .x true), (4, .x true)] (by kernel_rfl) ?_
      refine ws_l rfl rfl rfl rfl (rd_move rfl) ?_
      refine ws_l rfl rfl rfl rfl (rd_move rfl) ?_
      obtain ⟨bl, ol, cl, cs, El, frl, rfl, hml, hcs⟩ := Src.opened hsrc (by simp only [cmpP] at h11; omega)
      have hmil : HM bl (.cells cs El frl) φ := ⟨hml⟩
      obtain ⟨o, ho⟩ := at_ex (l := ops) (j := j) (by simp only [cmpP] at h11; omega)
      obtain ⟨ato, ato2⟩ := op_at hcs ho
      refine ws_l rfl rfl rfl rfl (rd_index (ol + j * 83) rfl rfl Try.underlying53 Try.sizeOf83 ⟨by omega, by simp only [cmpP] at h11; omega⟩ (by simp)) ?_
      refine ws_l rfl rfl rfl rfl (rd_fieldAddr rfl) ?_
      refine ws_lb _ rfl rfl rfl rfl (rd_load rfl) ?_ ?_
      · intro h22
        refine ws_nil ?_
        refine qe_then ?_
        refine wc_true rfl ?_
        refine wc_seq ?_
        refine wc_plain [(0, .x true), (1, .x true), (2, .x true), (3, .x true), (4, .x true), (5, .x true), (6, .x true), (7, .x true), (8, .x true), (9, .x true), (10, .x true), (11, .x true), (12, .x true)] (by kernel_rfl) ?_
        refine ws_l rfl rfl rfl rfl (rd_move rfl) ?_
        refine ws_l rfl rfl rfl rfl (rd_move rfl) ?_
        refine ws_l rfl rfl rfl rfl (rd_move rfl) ?_
        refine ws_l rfl rfl rfl rfl (rd_index (ol + j * 83) rfl rfl Try.underlying53 Try.sizeOf83 ⟨by omega, by simp only [cmpP] at h11; omega⟩ (by simp)) ?_
        refine ws_l rfl rfl rfl rfl (rd_fieldAddr rfl) ?_
        refine ws_l rfl rfl rfl rfl (rd_fieldAddr rfl) ?_
        refine ws_l rfl rfl rfl rfl (rd_load rfl) ?_
        refine ws_call rfl rfl rfl rfl rfl (En.go) (fun w hp hn ho => drop_ref _ v3 ν3 own hown (by omega) hok.nd o.x.id w (hp.mono SubH.mem) (SubH.nd hn)) (fun _ h => by cases h) (fun hh q h => by first | (cases h; done) | exact hh q h) ?_
        rintro v31 wa wb hpo hon hon2 hp1 (⟨he, vc, νc, rfl, hoc, hνc⟩ | ⟨he, rfl⟩)
        · refine ⟨νc, hνc, hoc.nd, fun b hb => .inl (hoc.far b hb), ?_⟩
          replace hoc := hoc.mono hon.size
          refine ws_l rfl rfl rfl rfl (rd_move rfl) ?_
          refine ws_l rfl rfl rfl rfl (rd_extract rfl) ?_
          refine ws_l rfl rfl rfl rfl (rd_extract rfl) ?_
          refine ws_l rfl rfl rfl rfl (rd_assign rfl) ?_
          refine ws_l rfl rfl rfl rfl (rd_assign rfl) ?_
          refine ws_nil ?_
          refine qe_then ?_
          refine wc_seq ?_
          refine wc_seq ?_
          refine wc_plain [(0, .x true), (1, .x true), (2, .x true), (3, .x true), (4, .x true), (5, .x true), (6, .x true), (7, .x true), (8, .x true), (9, .x true)] (by kernel_rfl) ?_
          refine ws_l rfl rfl rfl rfl (rd_move rfl) ?_
          refine ws_l rfl rfl rfl rfl (rd_move rfl) ?_
          refine ws_l rfl rfl rfl rfl (rd_move rfl) ?_
          refine ws_l rfl rfl rfl rfl (rd_index (ol + j * 83) rfl rfl Try.underlying53 Try.sizeOf83 ⟨by omega, by simp only [cmpP] at h11; omega⟩ (by simp)) ?_
          refine ws_l rfl rfl rfl rfl (rd_fieldAddr rfl) ?_
          refine ws_l rfl rfl rfl rfl (rd_fieldAddr rfl) ?_
          refine ws_l rfl rfl rfl rfl (rd_load rfl) ?_
          refine ws_call rfl rfl rfl rfl rfl (En.go) (fun w hp hn ho => drop_ret p m k es ws c d L W own νs hL hW hok (by omega) o.x.id w (hp.mono SubH.mem) (SubH.nd hn)) (fun b hb => by simp only [List.mem_cons, List.not_mem_nil, or_false] at hb; rcases hb with rfl | rfl; exact .inl hmb; exact .inl hkb) (fun hh q h => by first | (cases h; done) | exact hh q h) ?_
          rintro v41 wa wb hpo hon hon2 hp1 ⟨rfl, es1, c1, ws1, d1, L1, W1, ν1, hp2, hnd2, hfar2, hL1, hW1, hok1⟩
          refine ⟨(m, .map es1 c1) :: (k, .map ws1 d1) :: ν1, hp2, hnd2, fun b hb => by simp only [List.map_cons, List.mem_cons] at hb; rcases hb with rfl | rfl | hb; exact .inr (by simp); exact .inr (by simp); exact .inl (hfar2 b hb), ?_⟩
          simp only [List.cons_append]
          replace hfar2 : ∀ b ∈ ν1.map Prod.fst, _ ≤ b := fun b hb => Nat.le_trans hon.size (hfar2 b hb)
          refine ws_l rfl rfl rfl rfl (rd_move rfl) ?_
          refine ws_l rfl rfl rfl rfl (rd_cmp_f rfl rfl rfl (by simp [cmpP, he])) ?_
          refine ws_nil ?_
          refine qe_then ?_
          refine wc_false rfl ?_
          refine wc_skip ?_
          refine qe_then ?_
          refine wc_exit ?_
          refine qe_then_exit ?_
          refine qe_block_exit ?_
          refine qe_then ?_
          refine wc_plain [(0, .x true), (1, .x true), (2, .x true)] (by kernel_rfl) ?_
          refine ws_l rfl rfl rfl rfl (rd_move rfl) ?_
          refine ws_l rfl rfl rfl rfl (rd_arith (((j + 1 : Nat) : Int)) rfl rfl rfl (by rw [wrap_i64 _ (by omega) (by omega)]; omega)) ?_
          refine ws_l rfl rfl rfl rfl (rd_assign rfl) ?_
          refine ws_nil ?_
          exact qe_loop fun ac2 w2 hs2 => ⟨_, by omega, j + 1, es1, c1, ws1, d1, L1, W1, ν1 ++ νs, dropO own o.x.id, vc, νc, rfl, (by simp only [cmpP] at h14; omega), (hL1), (hW1), (by simpa using hok1), (hoc), (by have := dropO_len own o.x.id; omega), (fun b hb => by rw [List.map_append, List.mem_append] at hb; exact hb.elim (hfar2 b) (hfs b)), st_sub hs2 _ rfl⟩
        · refine ⟨[], HpOK.nil _, by simp, by simp, ?_⟩
          refine ws_l rfl rfl rfl rfl (rd_move rfl) ?_
          refine ws_l rfl rfl rfl rfl (rd_extract rfl) ?_
          refine ws_l rfl rfl rfl rfl (rd_extract rfl) ?_
          refine ws_l rfl rfl rfl rfl (rd_assign rfl) ?_
          refine ws_l rfl rfl rfl rfl (rd_assign rfl) ?_
          refine ws_nil ?_
          refine qe_then ?_
          refine wc_seq ?_
          refine wc_seq ?_
          refine wc_plain [(0, .x true), (1, .x true), (2, .x true), (3, .x true), (4, .x true), (5, .x true), (6, .x true), (7, .x true), (8, .x true), (9, .x true)] (by kernel_rfl) ?_
          refine ws_l rfl rfl rfl rfl (rd_move rfl) ?_
          refine ws_l rfl rfl rfl rfl (rd_move rfl) ?_
          refine ws_l rfl rfl rfl rfl (rd_move rfl) ?_
          refine ws_l rfl rfl rfl rfl (rd_index (ol + j * 83) rfl rfl Try.underlying53 Try.sizeOf83 ⟨by omega, by simp only [cmpP] at h11; omega⟩ (by simp)) ?_
          refine ws_l rfl rfl rfl rfl (rd_fieldAddr rfl) ?_
          refine ws_l rfl rfl rfl rfl (rd_fieldAddr rfl) ?_
          refine ws_l rfl rfl rfl rfl (rd_load rfl) ?_
          refine ws_call rfl rfl rfl rfl rfl (En.go) (fun w hp hn ho => drop_ret p m k es ws c d L W own νs hL hW hok (by omega) o.x.id w (hp.mono SubH.mem) (SubH.nd hn)) (fun b hb => by simp only [List.mem_cons, List.not_mem_nil, or_false] at hb; rcases hb with rfl | rfl; exact .inl hmb; exact .inl hkb) (fun hh q h => by first | (cases h; done) | exact hh q h) ?_
          rintro v41 wa wb hpo hon hon2 hp1 ⟨rfl, es1, c1, ws1, d1, L1, W1, ν1, hp2, hnd2, hfar2, hL1, hW1, hok1⟩
          refine ⟨(m, .map es1 c1) :: (k, .map ws1 d1) :: ν1, hp2, hnd2, fun b hb => by simp only [List.map_cons, List.mem_cons] at hb; rcases hb with rfl | rfl | hb; exact .inr (by simp); exact .inr (by simp); exact .inl (hfar2 b hb), ?_⟩
          simp only [List.cons_append]
          replace hfar2 : ∀ b ∈ ν1.map Prod.fst, _ ≤ b := fun b hb => Nat.le_trans hon.size (hfar2 b hb)
          refine ws_l rfl rfl rfl rfl (rd_move rfl) ?_
          refine ws_l rfl rfl rfl rfl (rd_cmp_f rfl rfl rfl (by simp [cmpP, he])) ?_
          refine ws_nil ?_
          refine qe_then ?_
          refine wc_false rfl ?_
          refine wc_skip ?_
          refine qe_then ?_
          refine wc_exit ?_
          refine qe_then_exit ?_
          refine qe_block_exit ?_
          refine qe_then ?_
          refine wc_plain [(0, .x true), (1, .x true), (2, .x true)] (by kernel_rfl) ?_
          refine ws_l rfl rfl rfl rfl (rd_move rfl) ?_
          refine ws_l rfl rfl rfl rfl (rd_arith (((j + 1 : Nat) : Int)) rfl rfl rfl (by rw [wrap_i64 _ (by omega) (by omega)]; omega)) ?_
          refine ws_l rfl rfl rfl rfl (rd_assign rfl) ?_
          refine ws_nil ?_
          exact qe_loop fun ac2 w2 hs2 => ⟨_, by omega, j + 1, es1, c1, ws1, d1, L1, W1, ν1 ++ νs, own, v3, ν3, rfl, (by simp only [cmpP] at h14; omega), (hL1), (hW1), (by rw [dropO_of he] at hok1; exact hok1), (hown), (by omega), (fun b hb => by rw [List.map_append, List.mem_append] at hb; exact hb.elim (hfar2 b) (hfs b)), st_sub hs2 _ rfl⟩
      · intro h22
        refine ws_nil ?_
        refine qe_then ?_
        refine wc_false rfl ?_
        refine wc_skip ?_
        refine qe_then ?_
        refine wc_seq ?_
        refine wc_plain [(0, .x true), (1, .x true), (2, .x true), (3, .x true), (4, .x true), (5, .x true), (6, .x true), (7, .x true), (8, .x true), (9, .x true), (10, .x true), (11, .x true)] (by kernel_rfl) ?_
        refine ws_l rfl rfl rfl rfl (rd_move rfl) ?_
        refine ws_l rfl rfl rfl rfl (rd_move rfl) ?_
        refine ws_l rfl rfl rfl rfl (rd_move rfl) ?_
        refine ws_l rfl rfl rfl rfl (rd_index (ol + j * 83) rfl rfl Try.underlying53 Try.sizeOf83 ⟨by omega, by simp only [cmpP] at h11; omega⟩ (by simp)) ?_
        refine ws_l rfl rfl rfl rfl (rd_fieldAddr rfl) ?_
        refine ws_l rfl rfl rfl rfl (rd_load rfl) ?_
        refine ws_call rfl rfl rfl rfl rfl (En.go) (fun w hp hn ho => add_ref _ v3 ν3 own hown (by omega) o.x w (hp.mono SubH.mem) (SubH.nd hn)) (fun _ h => by cases h) (fun hh q h => by first | (cases h; done) | exact hh q h) ?_
        rintro v53 wa wb hpo hon hon2 hp1 (⟨he, vc, νc, rfl, hoc, hνc⟩ | ⟨he, rfl⟩)
        · refine ⟨νc, hνc, hoc.nd, fun b hb => .inl (hoc.far b hb), ?_⟩
          replace hoc := hoc.mono hon.size
          refine ws_l rfl rfl rfl rfl (rd_move rfl) ?_
          refine ws_l rfl rfl rfl rfl (rd_extract rfl) ?_
          refine ws_l rfl rfl rfl rfl (rd_extract rfl) ?_
          refine ws_l rfl rfl rfl rfl (rd_assign rfl) ?_
          refine ws_l rfl rfl rfl rfl (rd_assign rfl) ?_
          refine ws_nil ?_
          refine qe_then ?_
          refine wc_seq ?_
          refine wc_plain [(0, .x true), (1, .x true), (2, .x true), (3, .x true), (4, .x true), (5, .x true), (6, .x true), (7, .x true), (8, .x true), (9, .x true)] (by kernel_rfl) ?_
          refine ws_l rfl rfl rfl rfl (rd_move rfl) ?_
          refine ws_l rfl rfl rfl rfl (rd_move rfl) ?_
          refine ws_l rfl rfl rfl rfl (rd_move rfl) ?_
          refine ws_l rfl rfl rfl rfl (rd_index (ol + j * 83) rfl rfl Try.underlying53 Try.sizeOf83 ⟨by omega, by simp only [cmpP] at h11; omega⟩ (by simp)) ?_
          refine ws_l rfl rfl rfl rfl (rd_fieldAddr rfl) ?_
          refine ws_l rfl rfl rfl rfl (rd_load rfl) ?_
          refine ws_call rfl rfl rfl rfl rfl (En.go) (fun w hp hn ho => to_ret o.x w) (fun _ h => by cases h) (fun hh q h => by first | (cases h; done) | exact hh q h) ?_
          rintro v62 wa wb hpo hon hon2 hp1 ⟨g2, ν2, rfl, hown2, hν2⟩
          refine ⟨ν2, hν2, hown2.nd, fun b hb => .inl (hown2.far b hb), ?_⟩
          replace hown2 := hown2.mono hon.size
          refine ws_call rfl rfl rfl rfl rfl (En.go) (fun w hp hn ho => add_ret p m k es ws c d L W own (ν2 ++ νs) hL hW (hok.mono (fun q hq => List.mem_append_right _ hq)) (by omega) o.x g2 (hown2.src.mono (fun q hq => List.mem_append_left _ hq)) w (hp.mono SubH.mem) (SubH.nd hn)) (fun b hb => by simp only [List.mem_cons, List.not_mem_nil, or_false] at hb; rcases hb with rfl | rfl; exact .inl hmb; exact .inl hkb) (fun hh q h => by first | (cases h; done) | exact hh q h) ?_
          rintro v63 wa wb hpo hon hon2 hp1 ⟨rfl, es1, c1, ws1, d1, L1, W1, ν1, hp2, hnd2, hfar2, hL1, hW1, hok1⟩
          refine ⟨(m, .map es1 c1) :: (k, .map ws1 d1) :: ν1, hp2, hnd2, fun b hb => by simp only [List.map_cons, List.mem_cons] at hb; rcases hb with rfl | rfl | hb; exact .inr (by simp); exact .inr (by simp); exact .inl (hfar2 b hb), ?_⟩
          simp only [List.cons_append]
          replace hfar2 : ∀ b ∈ ν1.map Prod.fst, _ ≤ b := fun b hb => Nat.le_trans hon.size (hfar2 b hb)
          refine ws_l rfl rfl rfl rfl (rd_move rfl) ?_
          refine ws_l rfl rfl rfl rfl (rd_cmp_f rfl rfl rfl (by simp [cmpP, he])) ?_
          refine ws_nil ?_
          refine qe_then ?_
          refine wc_false rfl ?_
          refine wc_skip ?_
          refine qe_block ?_
          refine qe_then ?_
          refine wc_plain [(0, .x true), (1, .x true), (2, .x true)] (by kernel_rfl) ?_
          refine ws_l rfl rfl rfl rfl (rd_move rfl) ?_
          refine ws_l rfl rfl rfl rfl (rd_arith (((j + 1 : Nat) : Int)) rfl rfl rfl (by rw [wrap_i64 _ (by omega) (by omega)]; omega)) ?_
          refine ws_l rfl rfl rfl rfl (rd_assign rfl) ?_
          refine ws_nil ?_
          exact qe_loop fun ac2 w2 hs2 => ⟨_, by omega, j + 1, es1, c1, ws1, d1, L1, W1, ν1 ++ (ν2 ++ νs), addO own o.x, vc, νc, rfl, (by simp only [cmpP] at h14; omega), (hL1), (hW1), (by simpa using hok1), (hoc), (by have := addO_len own o.x; omega), (fun b hb => by rw [List.map_append, List.map_append, List.mem_append, List.mem_append] at hb; exact hb.elim (hfar2 b) (fun h => h.elim (hown2.far b) (hfs b))), st_sub hs2 _ rfl⟩
        · refine ⟨[], HpOK.nil _, by simp, by simp, ?_⟩
          refine ws_l rfl rfl rfl rfl (rd_move rfl) ?_
          refine ws_l rfl rfl rfl rfl (rd_extract rfl) ?_
          refine ws_l rfl rfl rfl rfl (rd_extract rfl) ?_
          refine ws_l rfl rfl rfl rfl (rd_assign rfl) ?_
          refine ws_l rfl rfl rfl rfl (rd_assign rfl) ?_
          refine ws_nil ?_
          refine qe_then ?_
          refine wc_seq ?_
          refine wc_plain [(0, .x true), (1, .x true), (2, .x true), (3, .x true), (4, .x true), (5, .x true), (6, .x true), (7, .x true), (8, .x true), (9, .x true)] (by kernel_rfl) ?_
          refine ws_l rfl rfl rfl rfl (rd_move rfl) ?_
          refine ws_l rfl rfl rfl rfl (rd_move rfl) ?_
          refine ws_l rfl rfl rfl rfl (rd_move rfl) ?_
          refine ws_l rfl rfl rfl rfl (rd_index (ol + j * 83) rfl rfl Try.underlying53 Try.sizeOf83 ⟨by omega, by simp only [cmpP] at h11; omega⟩ (by simp)) ?_
          refine ws_l rfl rfl rfl rfl (rd_fieldAddr rfl) ?_
          refine ws_l rfl rfl rfl rfl (rd_load rfl) ?_
          refine ws_call rfl rfl rfl rfl rfl (En.go) (fun w hp hn ho => to_ret o.x w) (fun _ h => by cases h) (fun hh q h => by first | (cases h; done) | exact hh q h) ?_
          rintro v62 wa wb hpo hon hon2 hp1 ⟨g2, ν2, rfl, hown2, hν2⟩
          refine ⟨ν2, hν2, hown2.nd, fun b hb => .inl (hown2.far b hb), ?_⟩
          replace hown2 := hown2.mono hon.size
          refine ws_call rfl rfl rfl rfl rfl (En.go) (fun w hp hn ho => add_ret p m k es ws c d L W own (ν2 ++ νs) hL hW (hok.mono (fun q hq => List.mem_append_right _ hq)) (by omega) o.x g2 (hown2.src.mono (fun q hq => List.mem_append_left _ hq)) w (hp.mono SubH.mem) (SubH.nd hn)) (fun b hb => by simp only [List.mem_cons, List.not_mem_nil, or_false] at hb; rcases hb with rfl | rfl; exact .inl hmb; exact .inl hkb) (fun hh q h => by first | (cases h; done) | exact hh q h) ?_
          rintro v63 wa wb hpo hon hon2 hp1 ⟨rfl, es1, c1, ws1, d1, L1, W1, ν1, hp2, hnd2, hfar2, hL1, hW1, hok1⟩
          refine ⟨(m, .map es1 c1) :: (k, .map ws1 d1) :: ν1, hp2, hnd2, fun b hb => by simp only [List.map_cons, List.mem_cons] at hb; rcases hb with rfl | rfl | hb; exact .inr (by simp); exact .inr (by simp); exact .inl (hfar2 b hb), ?_⟩
          simp only [List.cons_append]
          replace hfar2 : ∀ b ∈ ν1.map Prod.fst, _ ≤ b := fun b hb => Nat.le_trans hon.size (hfar2 b hb)
          refine ws_l rfl rfl rfl rfl (rd_move rfl) ?_
          refine ws_l rfl rfl rfl rfl (rd_cmp_f rfl rfl rfl (by simp [cmpP, he])) ?_
          refine ws_nil ?_
          refine qe_then ?_
          refine wc_false rfl ?_
          refine wc_skip ?_
          refine qe_block ?_
          refine qe_then ?_
          refine wc_plain [(0, .x true), (1, .x true), (2, .x true)] (by kernel_rfl) ?_
          refine ws_l rfl rfl rfl rfl (rd_move rfl) ?_
          refine ws_l rfl rfl rfl rfl (rd_arith (((j + 1 : Nat) : Int)) rfl rfl rfl (by rw [wrap_i64 _ (by omega) (by omega)]; omega)) ?_
          refine ws_l rfl rfl rfl rfl (rd_assign rfl) ?_
          refine ws_nil ?_
          exact qe_loop fun ac2 w2 hs2 => ⟨_, by omega, j + 1, es1, c1, ws1, d1, L1, W1, ν1 ++ (ν2 ++ νs), own, v3, ν3, rfl, (by simp only [cmpP] at h14; omega), (hL1), (hW1), (by rw [addO, if_neg he] at hok1; exact hok1), (hown), (by omega), (fun b hb => by rw [List.map_append, List.map_append, List.mem_append, List.mem_append] at hb; exact hb.elim (hfar2 b) (fun h => h.elim (hown2.far b) (hfs b))), st_sub hs2 _ rfl⟩
    · intro h14
      refine ws_l rfl rfl rfl rfl (rd_pick_t rfl rfl) ?_
      refine ws_nil ?_
      refine qe_then ?_
      refine wc_false rfl ?_
      refine wc_exit ?_
      refine qe_then_exit ?_
      refine qe_then_exit ?_
      refine qe_block_exit ?_
      refine qe_then ?_
      refine wc_keep [(2, _), (3, _)] rfl ?_
      refine wc_seq ?_
      refine wc_plain [(0, .x true), (1, .x true), (2, .x true), (3, .x true), (4, .x true)] (by kernel_rfl) ?_
      refine ws_l rfl rfl rfl rfl (rd_move rfl) ?_
      refine ws_l rfl rfl rfl rfl (rd_move rfl) ?_
      refine ws_l rfl rfl rfl rfl (rd_assign rfl) ?_
      refine ws_l rfl rfl rfl rfl (rd_assign rfl) ?_
      refine ws_l rfl rfl rfl rfl (rd_assign rfl) ?_
      refine ws_nil ?_
      refine qe_then ?_
      refine wc_ret ?_
      refine qe_body _ (.inl rfl) (res3 rfl (RV.tmp rfl) (RV.tmp rfl) (RV.tmp rfl)) ?_
      exact ret_end fun w hp hn ho => ⟨p, m, k, es, c, ws, d, L, W, νs, own, v3, ν3, rfl, (hp.mono SubH.mem), SubH.nd hn, fun b hb => by simp only [List.map_cons, List.mem_cons] at hb; rcases hb with rfl | rfl | rfl | hb; exact hpb; exact hmb; exact hkb; exact (by rw [List.map_append, List.mem_append] at hb; exact hb.elim (hfs b) (hown.far b)), hL, hW, hok, hown, by omega⟩
  · intro h11
    refine ws_l rfl rfl rfl rfl (rd_move rfl) ?_
    refine ws_xskip rfl rfl rfl rfl ?_
    refine ws_xskip rfl rfl rfl rfl ?_
    refine ws_l rfl rfl rfl rfl (rd_pick_f rfl rfl) ?_
    refine ws_nil ?_
    refine qe_then ?_
    refine wc_false rfl ?_
    refine wc_exit ?_
    refine qe_then_exit ?_
    refine qe_then_exit ?_
    refine qe_block_exit ?_
    refine qe_then ?_
    refine wc_keep [(2, _), (3, _)] rfl ?_
    refine wc_seq ?_
    refine wc_plain [(0, .x true), (1, .x true), (2, .x true), (3, .x true), (4, .x true)] (by kernel_rfl) ?_
    refine ws_l rfl rfl rfl rfl (rd_move rfl) ?_
    refine ws_l rfl rfl rfl rfl (rd_move rfl) ?_
    refine ws_l rfl rfl rfl rfl (rd_assign rfl) ?_
    refine ws_l rfl rfl rfl rfl (rd_assign rfl) ?_
    refine ws_l rfl rfl rfl rfl (rd_assign rfl) ?_
    refine ws_nil ?_
    refine qe_then ?_
    refine wc_ret ?_
    refine qe_body _ (.inl rfl) (res3 rfl (RV.tmp rfl) (RV.tmp rfl) (RV.tmp rfl)) ?_
    exact ret_end fun w hp hn ho => ⟨p, m, k, es, c, ws, d, L, W, νs, own, v3, ν3, rfl, (hp.mono SubH.mem), SubH.nd hn, fun b hb => by simp only [List.map_cons, List.mem_cons] at hb; rcases hb with rfl | rfl | rfl | hb; exact hpb; exact hmb; exact hkb; exact (by rw [List.map_append, List.mem_append] at hb; exact hb.elim (hfs b) (hown.far b)), hL, hW, hok, hown, by omega⟩

end Go.Proofs.Ytaagmgpfpaanlaa
