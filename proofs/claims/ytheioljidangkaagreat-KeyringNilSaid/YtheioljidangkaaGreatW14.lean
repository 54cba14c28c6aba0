/- Walk: the keys of a chain. No conditions. -/
import Derived.Test.YtheioljidangkaaGreatWlk
namespace Go.Proofs.YtheioljidangkaaGreat
open Go Go.RowKit Go.Sx
set_option linter.unusedSimpArgs false
set_option linter.unusedVariables false

set_option maxRecDepth 100000 in
set_option maxHeartbeats 8000000 in
theorem walk_ret (p m k : Nat) (es ws : Array MapEntry) (c d : Nat) (L : RMap) (W : WMap) (own : List RK) (hL : MapIs (idK (n := 32)) rkK es c L) (hW : MapIs plE pvE ws d W) (hok : RingOK L W own) (hlen : own.length < 8192) (a : Au) (fd : Nat) (caps : Array Value) (κ : Heap) (J : List KK → Heap → Prop) (go : List KK → KK → Bool) (hv : IsVisit fd caps κ J go) (ν0 : Heap) (hJ0 : J [] ν0) (w : World) (hη : HpOK (ν0 ++ (κ ++ (ringP p m k :: ringT m k es c ws d (facts W)))) w) (hnd : ((ν0 ++ (κ ++ (ringP p m k :: ringT m k es c ws d (facts W)))).map Prod.fst).Nodup) : Ret Tryz.prog 30 [ptr p, idK a, .func (.func fd) #[] caps] w (ν0.map Prod.fst) (fun _ w' => ∃ ν', J (visitF go [] (chainF own a)) ν' ∧ HpOK ν' w' ∧ (ν'.map Prod.fst).Nodup ∧ ∀ b ∈ ν'.map Prod.fst, w.heap.size ≤ b ∨ b ∈ ν0.map Prod.fst) := by
  refine enter (n := 75) (args := [ptr p, idK a, .func (.func fd) #[] caps]) (ν0.map Prod.fst) (ν0 ++ (κ ++ (ringP p m k :: ringT m k es c ws d (facts W)))) Tryz.func30 rfl rfl rfl hη hnd ?_
  refine wc_seq ?_
  refine wc_plain [(0, .x true)] (by kernel_rfl) ?_
  refine ws_box rfl rfl rfl rfl ?_
  intro b4 hb4
  refine ws_nil ?_
  refine qe_then ?_
  refine wc_seq ?_
  refine wc_plain [(0, .x true)] (by kernel_rfl) ?_
  refine ws_l rfl rfl rfl rfl (rd_assign rfl) ?_
  refine ws_nil ?_
  refine qe_then ?_
  refine wc_seq ?_
  refine wc_seq ?_
  refine wc_plain [(0, .x true), (1, .x true), (2, .x true), (3, .x true), (4, .x true)] (by kernel_rfl) ?_
  refine ws_l rfl rfl rfl rfl (rd_move rfl) ?_
  refine ws_l rfl rfl rfl rfl (rd_nil rfl) ?_
  refine ws_l rfl rfl rfl rfl (rd_fieldAddr rfl) ?_
  refine ws_l rfl rfl rfl rfl (rd_load rfl) ?_
  refine ws_range Tryz.underlying91 rfl rfl rfl rfl ?_
  intro b18 hb18
  refine ws_nil ?_
  refine qe_then ?_
  refine wc_keep [(0, _), (2, _), (4, _), (6, _), (18, _)] rfl ?_
  refine wc_block ?_
  refine wc_loop (fun mz ac w1 => ∃ (seen : Array Nat) (R : WMap) (xs : List Pub) (v6 : Value) (ν6 : Heap), mz = R.length ∧ (IterIs plE pvE ws seen R) ∧ (OwnR w.heap.size 35 17 v6 ν6 xs.length (xs.flatMap pubL)) ∧ (xs.length + R.length ≤ W.length) ∧ (∀ z, (z ∈ xs ∨ ∃ q ∈ R, (q.1.1.au = a ∧ q.1.1.n = 0) ∧ q.1.1.p = z) ↔ ∃ q ∈ W, (q.1.1.au = a ∧ q.1.1.n = 0) ∧ q.1.1.p = z) ∧ St 75 w (ν0.map Prod.fst) [(0, ptr p), (2, .func (.func fd) #[] caps), (4, ptr b4), (6, v6), (18, ptr b18)] ((b18, .mapIter (some k) d seen d) :: (ν6 ++ (ν0 ++ (κ ++ ((b4, .cells (idC a) 59 (0, 0)) :: ringP p m k :: ringT m k es c ws d (facts W)))))) ac w1) _ (fun ac w1 hs => ⟨#[], W, [], .slice none 0 0, [], rfl, (IterIs.start hW), (OwnR.nil _ _ _), (by simp), (fun z => by simp), st_sub hs _ rfl⟩) ?_
  rintro _ ac1 wl1 ⟨seen, R, xs, v6, ν6, rfl, hit, hown6, hln, hmem, hs1⟩
  refine wc_at hs1 ?_
  refine wc_seq ?_
  refine wc_plain [(0, .x true), (1, .x true)] (by kernel_rfl) ?_
  refine ws_next (ek := plE) (en := pvE) hW hit rfl rfl rfl rfl (Nat.le_refl _) (.inl hb18) ?_ ?_
  · intro hR
    refine ws_l rfl rfl rfl rfl (rd_extract rfl) ?_
    refine ws_nil ?_
    refine qe_then ?_
    refine wc_seq ?_
    refine wc_false rfl ?_
    refine wc_exit ?_
    refine qe_then_exit ?_
    refine qe_then_exit ?_
    refine qe_block_exit ?_
    refine qe_then ?_
    refine wc_seq ?_
    refine wc_plain [(0, .x true), (1, .x true), (2, .x true), (3, .x true), (4, .x true), (5, .x true), (6, .x true), (7, .x true)] (by kernel_rfl) ?_
    refine ws_l rfl rfl rfl rfl (rd_move rfl) ?_
    have hroots : minOf pubLt xs = minOf pubLt (rootsOf own a) := pub_congr fun z => by
      rw [← hok.roots a z, ← hmem z, hR]
      simp
    have hwl := hok.wlen hW.keysNd
    refine ws_callp rfl rfl rfl rfl rfl (En.go) (fun w hp hn ho => smallpub_ret v6 ν6 xs hown6.src (by omega) w (hp.mono SubH.mem) hown6.nd) ?_
    rw [hroots]
    refine ws_l rfl rfl rfl rfl (rd_move rfl) ?_
    refine ws_l rfl rfl rfl rfl (rd_extract rfl) ?_
    refine ws_l rfl rfl rfl rfl (rd_extract rfl) ?_
    refine ws_alloc rfl rfl rfl ?_
    intro b8 hb8
    refine ws_store rfl rfl rfl rfl (by first | exact .inl (by assumption) | exact .inr (by simp)) (fun _ h _ => by first | (cases h; done) | exact List.mem_cons_of_mem _ h | exact List.mem_cons_of_mem _ (List.mem_cons_of_mem _ h) | (simp at h ⊢; simp [h])) ?_
    refine ws_l rfl rfl rfl rfl (rd_assign rfl) ?_
    refine ws_nil ?_
    refine qe_then ?_
    refine wc_keep [(0, _), (2, _), (4, _), (8, _), (9, _)] rfl ?_
    refine wc_seq ?_
    refine wc_plain [(0, .x true)] (by kernel_rfl) ?_
    refine ws_l rfl rfl rfl rfl (rd_assign rfl) ?_
    refine ws_nil ?_
    refine qe_then ?_
    refine wc_block ?_
    refine wc_loop (fun mz ac w1 => ∃ (nn : Nat) (fnd : Bool) (q : Pub) (pre : List KK) (ν : Heap), mz = 1002 - nn ∧ (pre.length = nn) ∧ (J pre ν) ∧ (∀ b ∈ ν.map Prod.fst, w.heap.size ≤ b ∨ b ∈ ν0.map Prod.fst) ∧ ((fnd = true → nn ≤ 1000 ∧ fineB q) ∧ nn ≤ 1001) ∧ (visitF go pre (if fnd = true then chainG own a (1001 - nn) nn q else []) = visitF go [] (chainF own a)) ∧ St 75 w (ν0.map Prod.fst) [(0, ptr p), (2, .func (.func fd) #[] caps), (4, ptr b4), (8, ptr b8), (9, .bool fnd), (10, I nn)] (ν ++ ((b8, .cells (pubC q) 35 (0, 0)) :: (κ ++ ((b4, .cells (idC a) 59 (0, 0)) :: ringP p m k :: ringT m k es c ws d (facts W))))) ac w1) _ (fun ac w1 hs => ⟨0, (minOf pubLt (rootsOf own a)).isSome, (minOf pubLt (rootsOf own a)).getD pub0, [], ν0, rfl, (rfl), (hJ0), (fun b hb => .inr hb), (by refine ⟨fun h => ⟨by omega, ?_⟩, by omega⟩; cases hr : minOf pubLt (rootsOf own a) with | none => rw [hr] at h; cases h | some z => exact root_fine hok.ok hr), (by rw [chainF, rootF]; cases hr : minOf pubLt (rootsOf own a) <;> rfl), st_sub hs _ rfl⟩) ?_
    rintro _ ac2 wl2 ⟨nn, fnd, q, pre, ν, rfl, hpl, hJ, hfar, hnn, hch, hs2⟩
    refine wc_at hs2 ?_
    refine wc_seq ?_
    refine wc_seq ?_
    refine wc_plain [(0, .x true)] (by kernel_rfl) ?_
    cases fnd with
    | false =>
      refine ws_l rfl rfl rfl rfl (rd_move rfl) ?_
      rw [if_neg (by simp)] at hch
      refine ws_nil ?_
      refine qe_then ?_
      refine wc_false rfl ?_
      refine wc_exit ?_
      refine qe_then_exit ?_
      refine qe_then_exit ?_
      refine qe_block_exit ?_
      refine qe_body _ (.inr rfl) (res0 rfl) ?_
      exact ret_end fun w hp hn ho => ⟨ν, by rw [← hch]; exact hJ, (hp.mono SubH.mem), SubH.nd hn, hfar⟩
    | true =>
      refine ws_l rfl rfl rfl rfl (rd_move rfl) ?_
      have hn1000 : nn ≤ 1000 := (hnn.1 rfl).1
      have hfq : fineB q := (hnn.1 rfl).2
      rw [if_pos rfl] at hch
      obtain ⟨gp, hgp, hsp⟩ := hok.place hW.keysNd ⟨⟨a, nn, q⟩, ⟨⟨by simp only; omega, by simp only; omega⟩, hfq⟩⟩
      have hal := atPl_len own ⟨a, nn, q⟩
      refine ws_nil ?_
      refine qe_then ?_
      refine wc_true rfl ?_
      refine wc_skip ?_
      refine qe_then ?_
      refine wc_seq ?_
      refine wc_block ?_
      refine wc_seq ?_
      refine wc_plain [(0, .x true), (1, .x true), (2, .x true), (3, .x true), (4, .x true)] (by kernel_rfl) ?_
      refine ws_l rfl rfl rfl rfl (rd_move rfl) ?_
      refine ws_l rfl rfl rfl rfl (rd_load rfl) ?_
      refine ws_l rfl rfl rfl rfl (rd_build rfl) ?_
      refine ws_alloc rfl rfl rfl ?_
      intro b11 hb11
      refine ws_store rfl rfl rfl rfl (by first | exact .inl (by assumption) | exact .inr (by simp)) (fun _ h _ => by first | (cases h; done) | exact List.mem_cons_of_mem _ h | exact List.mem_cons_of_mem _ (List.mem_cons_of_mem _ h) | (simp at h ⊢; simp [h])) ?_
      refine ws_nil ?_
      refine qe_then ?_
      refine wc_seq ?_
      refine wc_drawnO mixedT _ (fun _ h => h) (.r 0 (.r 1 (.r 2 (.r 3 (.r 4 (.r 5 (.r 6 (.r 7 (.r 8 (.b 9 13 (.seq [(10, .r), (11, .r), (12, .r), (13, .x false), (14, .x false), (15, .x true)]) (.seq [(9, .x false), (10, .r), (11, .r), (12, .r), (14, .x false), (15, .x true)]))))))))))) (by kernel_rfl) ?_
      refine od_r ?_
      refine ws_r rfl rfl rfl rfl (rd_move rfl) ?_
      refine od_go ?_
      refine od_r ?_
      refine ws_r rfl rfl rfl rfl (rd_nil rfl) ?_
      refine od_go ?_
      refine od_r ?_
      refine ws_r rfl rfl rfl rfl (rd_fieldAddr rfl) ?_
      refine od_go ?_
      refine od_r ?_
      refine ws_r rfl rfl rfl rfl (rd_load rfl) ?_
      refine od_go ?_
      refine od_r ?_
      refine ws_r rfl rfl rfl rfl (rd_load rfl) ?_
      refine od_go ?_
      refine od_r ?_
      refine ws_r rfl rfl rfl rfl (rd_move rfl) ?_
      refine od_go ?_
      refine od_r ?_
      refine ws_r rfl rfl rfl rfl (rd_load rfl) ?_
      refine od_go ?_
      refine od_r ?_
      refine ws_r rfl rfl rfl rfl (rd_build rfl) ?_
      refine od_go ?_
      refine od_r ?_
      refine ws_r rfl rfl rfl rfl (rd_place (t := ⟨⟨a, nn, q⟩, ⟨⟨by simp only; omega, by simp only; omega⟩, hfq⟩⟩) hW hgp rfl rfl) ?_
      refine od_go ?_
      refine od_b ?_ ?_
      ·
        refine ws_callp rfl rfl rfl rfl rfl (En.go) (fun w hp hn ho => smallrk_ret gp.v (facts W) (atPl own ⟨a, nn, q⟩) hsp (by omega) w (hp.mono SubH.mem) (SubH.nd hn)) ?_
        refine od_go ?_
        refine od_seq ?_
        refine ws_r rfl rfl rfl rfl (rd_move rfl) ?_
        refine ws_r rfl rfl rfl rfl (rd_extract rfl) ?_
        refine ws_r rfl rfl rfl rfl (rd_extract rfl) ?_
        refine ws_alloc rfl rfl rfl ?_
        intro b12 hb12
        refine ws_store rfl rfl rfl rfl (by first | exact .inl (by assumption) | exact .inr (by simp)) (fun _ h _ => by first | (cases h; done) | exact List.mem_cons_of_mem _ h | exact List.mem_cons_of_mem _ (List.mem_cons_of_mem _ h) | (simp at h ⊢; simp [h])) ?_
        refine ws_late rfl ?_
        refine ws_l rfl rfl rfl rfl (rd_assign rfl) ?_
        refine ws_nil ?_
        refine qe_then ?_
        refine wc_seq ?_
        refine wc_seq ?_
        refine wc_plain [(0, .x true)] (by kernel_rfl) ?_
        cases he : minOf rkLt (atPl own ⟨a, nn, q⟩) with
        | none =>
          simp only [Option.getD_none, Option.isSome_none]
          refine ws_l rfl rfl rfl rfl (rd_move rfl) ?_
          refine ws_nil ?_
          refine qe_then ?_
          refine wc_false rfl ?_
          refine wc_skip ?_
          refine qe_then ?_
          refine wc_seq ?_
          refine wc_seq ?_
          refine wc_plain [(0, .x true), (1, .x true), (2, .x true), (3, .x true)] (by kernel_rfl) ?_
          refine ws_l rfl rfl rfl rfl (rd_move rfl) ?_
          refine ws_l rfl rfl rfl rfl (rd_load rfl) ?_
          refine ws_callV ν rfl rfl rfl rfl rfl hv.en (fun w hp hn ho => hv.ret pre ⟨nn, q, -1, id0⟩ ν w (by omega) hJ (hp.mono SubH.mem) (SubH.nd hn)) hfar (fun hh q h => by first | (cases h; done) | exact hh q h | skip) ?_
          rintro v70 wa wb hpo hon hon2 hp1 ⟨rfl, ν2, hJ2, hν2, hnd2, hfar2⟩
          refine ⟨ν2, hν2, hnd2, hfar2, ?_⟩
          replace hfar2 : ∀ b ∈ ν2.map Prod.fst, _ ∨ _ := fun b hb => (hfar2 b hb).elim (fun h => .inl (Nat.le_trans hon.size h)) (hfar b)
          rw [chain_none he hn1000] at hch
          cases hgo : go pre ⟨nn, q, -1, id0⟩ with
          | false =>
            rw [visit_stop hgo] at hch
            refine ws_l rfl rfl rfl rfl (rd_not rfl) ?_
            refine ws_nil ?_
            refine qe_then ?_
            refine wc_true rfl ?_
            refine wc_ret ?_
            refine qe_then_ret ?_
            refine qe_block_ret ?_
            refine qe_then_ret ?_
            refine qe_then_ret ?_
            refine qe_block_ret ?_
            refine qe_body _ (.inl rfl) (res0 rfl) ?_
            exact ret_end fun w hp hn ho => ⟨ν2, by rw [← hch]; exact hJ2, (hp.mono SubH.mem), SubH.nd hn, hfar2⟩
          | true =>
            rw [visit_go hgo] at hch
            refine ws_l rfl rfl rfl rfl (rd_not rfl) ?_
            refine ws_nil ?_
            refine qe_then ?_
            refine wc_false rfl ?_
            refine wc_skip ?_
            refine qe_then ?_
            refine wc_plain [(0, .x true), (1, .x true), (2, .x true), (3, .x true), (4, .x true)] (by kernel_rfl) ?_
            refine ws_l rfl rfl rfl rfl (rd_fieldAddr rfl) ?_
            refine ws_l rfl rfl rfl rfl (rd_load rfl) ?_
            refine ws_l rfl rfl rfl rfl (rd_move rfl) ?_
            refine ws_store rfl rfl rfl rfl (by first | exact .inl (by assumption) | exact .inr (by simp)) (fun _ h _ => by first | (cases h; done) | exact List.mem_cons_of_mem _ h | exact List.mem_cons_of_mem _ (List.mem_cons_of_mem _ h) | (simp at h ⊢; simp [h])) ?_
            refine ws_l rfl rfl rfl rfl (rd_assign rfl) ?_
            refine ws_nil ?_
            refine qe_block ?_
            refine qe_then ?_
            refine wc_plain [(0, .x true), (1, .x true), (2, .x true)] (by kernel_rfl) ?_
            refine ws_l rfl rfl rfl rfl (rd_move rfl) ?_
            refine ws_l rfl rfl rfl rfl (rd_arith (((nn + 1 : Nat) : Nat) : Int) rfl rfl rfl (by rw [wrap_i64 _ (by omega) (by omega)]; omega)) ?_
            refine ws_l rfl rfl rfl rfl (rd_assign rfl) ?_
            refine ws_nil ?_
            exact qe_loop fun ac2 w2 hs2 => ⟨_, by omega, nn + 1, false, rk0.q, pre ++ [⟨nn, q, -1, id0⟩], ν2, rfl, (by simp [hpl]), (hJ2), (hfar2), (⟨fun h => by simp at h, by omega⟩), (by rw [if_neg (by simp)]; exact hch), st_sub hs2 _ rfl⟩
        | some r =>
          simp only [Option.getD_some, Option.isSome_some]
          refine ws_l rfl rfl rfl rfl (rd_move rfl) ?_
          have hnx := end_next hok.ok he
          refine ws_nil ?_
          refine qe_then ?_
          refine wc_true rfl ?_
          refine wc_drawn mixedT [(b12, .cells (rkC r) 98 (0, 0))] (fun q hq => by simp at hq ⊢; simp [hq]) [(0, .r), (1, .r), (2, .r), (3, .r), (4, .r), (5, .x false), (6, .x true), (7, .x true)] (by kernel_rfl) ?_
          refine ws_r rfl rfl rfl rfl (rd_fieldAddr rfl) ?_
          refine ws_r rfl rfl rfl rfl (rd_load rfl) ?_
          refine ws_r rfl rfl rfl rfl (rd_fieldAddr rfl) ?_
          refine ws_r rfl rfl rfl rfl (rd_load rfl) ?_
          refine ws_r rfl rfl rfl rfl (rd_fieldAddr rfl) ?_
          refine ws_store rfl rfl rfl rfl (by first | exact .inl (by assumption) | exact .inr (by simp)) (fun _ h _ => by first | (cases h; done) | exact List.mem_cons_of_mem _ h | exact List.mem_cons_of_mem _ (List.mem_cons_of_mem _ h) | (simp at h ⊢; simp [h])) ?_
          refine ws_late rfl ?_
          refine ws_l rfl rfl rfl rfl (rd_fieldAddr rfl) ?_
          refine ws_store rfl rfl rfl rfl (by first | exact .inl (by assumption) | exact .inr (by simp)) (fun _ h _ => by first | (cases h; done) | exact List.mem_cons_of_mem _ h | exact List.mem_cons_of_mem _ (List.mem_cons_of_mem _ h) | (simp at h ⊢; simp [h])) ?_
          refine ws_nil ?_
          refine qe_then ?_
          refine wc_seq ?_
          refine wc_seq ?_
          refine wc_plain [(0, .x true), (1, .x true), (2, .x true), (3, .x true)] (by kernel_rfl) ?_
          refine ws_l rfl rfl rfl rfl (rd_move rfl) ?_
          refine ws_l rfl rfl rfl rfl (rd_load rfl) ?_
          refine ws_callV ν rfl rfl rfl rfl rfl hv.en (fun w hp hn ho => hv.ret pre ⟨nn, q, r.leaf, r.id⟩ ν w (by omega) hJ (hp.mono SubH.mem) (SubH.nd hn)) hfar (fun hh q h => by first | (cases h; done) | exact hh q h | skip) ?_
          rintro v70 wa wb hpo hon hon2 hp1 ⟨rfl, ν2, hJ2, hν2, hnd2, hfar2⟩
          refine ⟨ν2, hν2, hnd2, hfar2, ?_⟩
          replace hfar2 : ∀ b ∈ ν2.map Prod.fst, _ ∨ _ := fun b hb => (hfar2 b hb).elim (fun h => .inl (Nat.le_trans hon.size h)) (hfar b)
          rw [chain_some he hn1000] at hch
          cases hgo : go pre ⟨nn, q, r.leaf, r.id⟩ with
          | false =>
            rw [visit_stop hgo] at hch
            refine ws_l rfl rfl rfl rfl (rd_not rfl) ?_
            refine ws_nil ?_
            refine qe_then ?_
            refine wc_true rfl ?_
            refine wc_ret ?_
            refine qe_then_ret ?_
            refine qe_block_ret ?_
            refine qe_then_ret ?_
            refine qe_then_ret ?_
            refine qe_block_ret ?_
            refine qe_body _ (.inl rfl) (res0 rfl) ?_
            exact ret_end fun w hp hn ho => ⟨ν2, by rw [← hch]; exact hJ2, (hp.mono SubH.mem), SubH.nd hn, hfar2⟩
          | true =>
            rw [visit_go hgo] at hch
            refine ws_l rfl rfl rfl rfl (rd_not rfl) ?_
            refine ws_nil ?_
            refine qe_then ?_
            refine wc_false rfl ?_
            refine wc_skip ?_
            refine qe_then ?_
            refine wc_plain [(0, .x true), (1, .x true), (2, .x true), (3, .x true), (4, .x true)] (by kernel_rfl) ?_
            refine ws_l rfl rfl rfl rfl (rd_fieldAddr rfl) ?_
            refine ws_l rfl rfl rfl rfl (rd_load rfl) ?_
            refine ws_l rfl rfl rfl rfl (rd_move rfl) ?_
            refine ws_store rfl rfl rfl rfl (by first | exact .inl (by assumption) | exact .inr (by simp)) (fun _ h _ => by first | (cases h; done) | exact List.mem_cons_of_mem _ h | exact List.mem_cons_of_mem _ (List.mem_cons_of_mem _ h) | (simp at h ⊢; simp [h])) ?_
            refine ws_l rfl rfl rfl rfl (rd_assign rfl) ?_
            refine ws_nil ?_
            refine qe_block ?_
            refine qe_then ?_
            refine wc_plain [(0, .x true), (1, .x true), (2, .x true)] (by kernel_rfl) ?_
            refine ws_l rfl rfl rfl rfl (rd_move rfl) ?_
            refine ws_l rfl rfl rfl rfl (rd_arith (((nn + 1 : Nat) : Nat) : Int) rfl rfl rfl (by rw [wrap_i64 _ (by omega) (by omega)]; omega)) ?_
            refine ws_l rfl rfl rfl rfl (rd_assign rfl) ?_
            refine ws_nil ?_
            exact qe_loop fun ac2 w2 hs2 => ⟨_, by omega, nn + 1, true, r.q, pre ++ [⟨nn, q, r.leaf, r.id⟩], ν2, rfl, (by simp [hpl]), (hJ2), (hfar2), (⟨fun _ => ⟨by have := hnx.1; simp only at this; omega, hnx.2⟩, by omega⟩), (by rw [if_pos rfl]; exact hch), st_sub hs2 _ rfl⟩
      ·
        refine ws_alloc rfl rfl rfl ?_
        intro b12 hb12
        refine od_go ?_
        refine od_seq ?_
        refine ws_callp rfl rfl rfl rfl rfl (En.go) (fun w hp hn ho => smallrk_ret gp.v (facts W) (atPl own ⟨a, nn, q⟩) hsp (by omega) w (hp.mono SubH.mem) (SubH.nd hn)) ?_
        refine ws_r rfl rfl rfl rfl (rd_move rfl) ?_
        refine ws_r rfl rfl rfl rfl (rd_extract rfl) ?_
        refine ws_r rfl rfl rfl rfl (rd_extract rfl) ?_
        refine ws_store rfl rfl rfl rfl (by first | exact .inl (by assumption) | exact .inr (by simp)) (fun _ h _ => by first | (cases h; done) | exact List.mem_cons_of_mem _ h | exact List.mem_cons_of_mem _ (List.mem_cons_of_mem _ h) | (simp at h ⊢; simp [h])) ?_
        refine ws_late rfl ?_
        refine ws_l rfl rfl rfl rfl (rd_assign rfl) ?_
        refine ws_nil ?_
        refine qe_then ?_
        refine wc_seq ?_
        refine wc_seq ?_
        refine wc_plain [(0, .x true)] (by kernel_rfl) ?_
        cases he : minOf rkLt (atPl own ⟨a, nn, q⟩) with
        | none =>
          simp only [Option.getD_none, Option.isSome_none]
          refine ws_l rfl rfl rfl rfl (rd_move rfl) ?_
          refine ws_nil ?_
          refine qe_then ?_
          refine wc_false rfl ?_
          refine wc_skip ?_
          refine qe_then ?_
          refine wc_seq ?_
          refine wc_seq ?_
          refine wc_plain [(0, .x true), (1, .x true), (2, .x true), (3, .x true)] (by kernel_rfl) ?_
          refine ws_l rfl rfl rfl rfl (rd_move rfl) ?_
          refine ws_l rfl rfl rfl rfl (rd_load rfl) ?_
          refine ws_callV ν rfl rfl rfl rfl rfl hv.en (fun w hp hn ho => hv.ret pre ⟨nn, q, -1, id0⟩ ν w (by omega) hJ (hp.mono SubH.mem) (SubH.nd hn)) hfar (fun hh q h => by first | (cases h; done) | exact hh q h | skip) ?_
          rintro v70 wa wb hpo hon hon2 hp1 ⟨rfl, ν2, hJ2, hν2, hnd2, hfar2⟩
          refine ⟨ν2, hν2, hnd2, hfar2, ?_⟩
          replace hfar2 : ∀ b ∈ ν2.map Prod.fst, _ ∨ _ := fun b hb => (hfar2 b hb).elim (fun h => .inl (Nat.le_trans hon.size h)) (hfar b)
          rw [chain_none he hn1000] at hch
          cases hgo : go pre ⟨nn, q, -1, id0⟩ with
          | false =>
            rw [visit_stop hgo] at hch
            refine ws_l rfl rfl rfl rfl (rd_not rfl) ?_
            refine ws_nil ?_
            refine qe_then ?_
            refine wc_true rfl ?_
            refine wc_ret ?_
            refine qe_then_ret ?_
            refine qe_block_ret ?_
            refine qe_then_ret ?_
            refine qe_then_ret ?_
            refine qe_block_ret ?_
            refine qe_body _ (.inl rfl) (res0 rfl) ?_
            exact ret_end fun w hp hn ho => ⟨ν2, by rw [← hch]; exact hJ2, (hp.mono SubH.mem), SubH.nd hn, hfar2⟩
          | true =>
            rw [visit_go hgo] at hch
            refine ws_l rfl rfl rfl rfl (rd_not rfl) ?_
            refine ws_nil ?_
            refine qe_then ?_
            refine wc_false rfl ?_
            refine wc_skip ?_
            refine qe_then ?_
            refine wc_plain [(0, .x true), (1, .x true), (2, .x true), (3, .x true), (4, .x true)] (by kernel_rfl) ?_
            refine ws_l rfl rfl rfl rfl (rd_fieldAddr rfl) ?_
            refine ws_l rfl rfl rfl rfl (rd_load rfl) ?_
            refine ws_l rfl rfl rfl rfl (rd_move rfl) ?_
            refine ws_store rfl rfl rfl rfl (by first | exact .inl (by assumption) | exact .inr (by simp)) (fun _ h _ => by first | (cases h; done) | exact List.mem_cons_of_mem _ h | exact List.mem_cons_of_mem _ (List.mem_cons_of_mem _ h) | (simp at h ⊢; simp [h])) ?_
            refine ws_l rfl rfl rfl rfl (rd_assign rfl) ?_
            refine ws_nil ?_
            refine qe_block ?_
            refine qe_then ?_
            refine wc_plain [(0, .x true), (1, .x true), (2, .x true)] (by kernel_rfl) ?_
            refine ws_l rfl rfl rfl rfl (rd_move rfl) ?_
            refine ws_l rfl rfl rfl rfl (rd_arith (((nn + 1 : Nat) : Nat) : Int) rfl rfl rfl (by rw [wrap_i64 _ (by omega) (by omega)]; omega)) ?_
            refine ws_l rfl rfl rfl rfl (rd_assign rfl) ?_
            refine ws_nil ?_
            exact qe_loop fun ac2 w2 hs2 => ⟨_, by omega, nn + 1, false, rk0.q, pre ++ [⟨nn, q, -1, id0⟩], ν2, rfl, (by simp [hpl]), (hJ2), (hfar2), (⟨fun h => by simp at h, by omega⟩), (by rw [if_neg (by simp)]; exact hch), st_sub hs2 _ rfl⟩
        | some r =>
          simp only [Option.getD_some, Option.isSome_some]
          refine ws_l rfl rfl rfl rfl (rd_move rfl) ?_
          have hnx := end_next hok.ok he
          refine ws_nil ?_
          refine qe_then ?_
          refine wc_true rfl ?_
          refine wc_drawn mixedT [(b12, .cells (rkC r) 98 (0, 0))] (fun q hq => by simp at hq ⊢; simp [hq]) [(0, .r), (1, .r), (2, .r), (3, .r), (4, .r), (5, .x false), (6, .x true), (7, .x true)] (by kernel_rfl) ?_
          refine ws_r rfl rfl rfl rfl (rd_fieldAddr rfl) ?_
          refine ws_r rfl rfl rfl rfl (rd_load rfl) ?_
          refine ws_r rfl rfl rfl rfl (rd_fieldAddr rfl) ?_
          refine ws_r rfl rfl rfl rfl (rd_load rfl) ?_
          refine ws_r rfl rfl rfl rfl (rd_fieldAddr rfl) ?_
          refine ws_store rfl rfl rfl rfl (by first | exact .inl (by assumption) | exact .inr (by simp)) (fun _ h _ => by first | (cases h; done) | exact List.mem_cons_of_mem _ h | exact List.mem_cons_of_mem _ (List.mem_cons_of_mem _ h) | (simp at h ⊢; simp [h])) ?_
          refine ws_late rfl ?_
          refine ws_l rfl rfl rfl rfl (rd_fieldAddr rfl) ?_
          refine ws_store rfl rfl rfl rfl (by first | exact .inl (by assumption) | exact .inr (by simp)) (fun _ h _ => by first | (cases h; done) | exact List.mem_cons_of_mem _ h | exact List.mem_cons_of_mem _ (List.mem_cons_of_mem _ h) | (simp at h ⊢; simp [h])) ?_
          refine ws_nil ?_
          refine qe_then ?_
          refine wc_seq ?_
          refine wc_seq ?_
          refine wc_plain [(0, .x true), (1, .x true), (2, .x true), (3, .x true)] (by kernel_rfl) ?_
          refine ws_l rfl rfl rfl rfl (rd_move rfl) ?_
          refine ws_l rfl rfl rfl rfl (rd_load rfl) ?_
          refine ws_callV ν rfl rfl rfl rfl rfl hv.en (fun w hp hn ho => hv.ret pre ⟨nn, q, r.leaf, r.id⟩ ν w (by omega) hJ (hp.mono SubH.mem) (SubH.nd hn)) hfar (fun hh q h => by first | (cases h; done) | exact hh q h | skip) ?_
          rintro v70 wa wb hpo hon hon2 hp1 ⟨rfl, ν2, hJ2, hν2, hnd2, hfar2⟩
          refine ⟨ν2, hν2, hnd2, hfar2, ?_⟩
          replace hfar2 : ∀ b ∈ ν2.map Prod.fst, _ ∨ _ := fun b hb => (hfar2 b hb).elim (fun h => .inl (Nat.le_trans hon.size h)) (hfar b)
          rw [chain_some he hn1000] at hch
          cases hgo : go pre ⟨nn, q, r.leaf, r.id⟩ with
          | false =>
            rw [visit_stop hgo] at hch
            refine ws_l rfl rfl rfl rfl (rd_not rfl) ?_
            refine ws_nil ?_
            refine qe_then ?_
            refine wc_true rfl ?_
            refine wc_ret ?_
            refine qe_then_ret ?_
            refine qe_block_ret ?_
            refine qe_then_ret ?_
            refine qe_then_ret ?_
            refine qe_block_ret ?_
            refine qe_body _ (.inl rfl) (res0 rfl) ?_
            exact ret_end fun w hp hn ho => ⟨ν2, by rw [← hch]; exact hJ2, (hp.mono SubH.mem), SubH.nd hn, hfar2⟩
          | true =>
            rw [visit_go hgo] at hch
            refine ws_l rfl rfl rfl rfl (rd_not rfl) ?_
            refine ws_nil ?_
            refine qe_then ?_
            refine wc_false rfl ?_
            refine wc_skip ?_
            refine qe_then ?_
            refine wc_plain [(0, .x true), (1, .x true), (2, .x true), (3, .x true), (4, .x true)] (by kernel_rfl) ?_
            refine ws_l rfl rfl rfl rfl (rd_fieldAddr rfl) ?_
            refine ws_l rfl rfl rfl rfl (rd_load rfl) ?_
            refine ws_l rfl rfl rfl rfl (rd_move rfl) ?_
            refine ws_store rfl rfl rfl rfl (by first | exact .inl (by assumption) | exact .inr (by simp)) (fun _ h _ => by first | (cases h; done) | exact List.mem_cons_of_mem _ h | exact List.mem_cons_of_mem _ (List.mem_cons_of_mem _ h) | (simp at h ⊢; simp [h])) ?_
            refine ws_l rfl rfl rfl rfl (rd_assign rfl) ?_
            refine ws_nil ?_
            refine qe_block ?_
            refine qe_then ?_
            refine wc_plain [(0, .x true), (1, .x true), (2, .x true)] (by kernel_rfl) ?_
            refine ws_l rfl rfl rfl rfl (rd_move rfl) ?_
            refine ws_l rfl rfl rfl rfl (rd_arith (((nn + 1 : Nat) : Nat) : Int) rfl rfl rfl (by rw [wrap_i64 _ (by omega) (by omega)]; omega)) ?_
            refine ws_l rfl rfl rfl rfl (rd_assign rfl) ?_
            refine ws_nil ?_
            exact qe_loop fun ac2 w2 hs2 => ⟨_, by omega, nn + 1, true, r.q, pre ++ [⟨nn, q, r.leaf, r.id⟩], ν2, rfl, (by simp [hpl]), (hJ2), (hfar2), (⟨fun _ => ⟨by have := hnx.1; simp only at this; omega, hnx.2⟩, by omega⟩), (by rw [if_pos rfl]; exact hch), st_sub hs2 _ rfl⟩
  · intro R1 pr R2 seen' hR hit' hcu
    refine ws_l rfl rfl rfl rfl (rd_extract rfl) ?_
    refine ws_nil ?_
    refine qe_then ?_
    refine wc_seq ?_
    refine wc_true rfl ?_
    refine wc_skip ?_
    refine qe_then ?_
    refine wc_block ?_
    refine wc_seq ?_
    refine wc_plain [(0, .x true), (1, .x true), (2, .x true), (3, .x true)] (by kernel_rfl) ?_
    refine ws_l rfl rfl rfl rfl (rd_entry (ek := plE) (en := pvE) hW hcu rfl) ?_
    rw [show plE pr.1 = plK pr.1.1 from rfl]
    refine ws_l rfl rfl rfl rfl (rd_extract rfl) ?_
    refine ws_alloc rfl rfl rfl ?_
    intro b7 hb7
    refine ws_store rfl rfl rfl rfl (by first | exact .inl (by assumption) | exact .inr (by simp)) (fun _ h _ => by first | (cases h; done) | exact List.mem_cons_of_mem _ h | exact List.mem_cons_of_mem _ (List.mem_cons_of_mem _ h) | (simp at h ⊢; simp [h])) ?_
    refine ws_nil ?_
    refine qe_then ?_
    refine wc_seq ?_
    refine wc_plain [(0, .x true), (1, .x true), (2, .x true), (3, .x true), (4, .x true), (5, .x true), (6, .x true), (7, .x true), (8, .x true)] (by kernel_rfl) ?_
    refine ws_l rfl rfl rfl rfl (rd_fieldAddr rfl) ?_
    refine ws_l rfl rfl rfl rfl (rd_load rfl) ?_
    refine ws_l rfl rfl rfl rfl (rd_load rfl) ?_
    refine ws_lp _ rfl rfl rfl rfl (rd_eqid rfl rfl Tryz.underlying59 (by kernel_rfl)) ?_ ?_
    · intro h26
      refine ws_l rfl rfl rfl rfl (rd_move rfl) ?_
      refine ws_l rfl rfl rfl rfl (rd_fieldAddr rfl) ?_
      refine ws_l rfl rfl rfl rfl (rd_load rfl) ?_
      refine ws_lcmp rfl rfl rfl (rfl) (rfl) (rfl) ?_ ?_
      · intro h30
        refine ws_l rfl rfl rfl rfl (rd_pick_t rfl rfl) ?_
        refine ws_nil ?_
        refine qe_then ?_
        refine wc_true rfl ?_
        refine wc_plain [(0, .x true), (1, .x true), (2, .x true), (3, .x true), (4, .x true), (5, .x true)] (by kernel_rfl) ?_
        refine ws_l rfl rfl rfl rfl (rd_move rfl) ?_
        refine ws_l rfl rfl rfl rfl (rd_fieldAddr rfl) ?_
        refine ws_l rfl rfl rfl rfl (rd_load rfl) ?_
        refine ws_buildSlice rfl rfl rfl rfl ?_
        intro b35 hb35
        refine ws_append rfl rfl rfl rfl rfl hown6 (by simp [pubC_size]) (pubC_one _) (by have := hok.wlen hW.keysNd; simp only [maxLen]; omega) (by have := hok.wlen hW.keysNd; omega) (fun _ _ _ h => by first | (cases h; done) | (simp only [List.mem_append, List.mem_cons] at h ⊢; grind) | skip) ?_
        intro v6' ν6' hown6'
        refine ws_l rfl rfl rfl rfl (rd_assign rfl) ?_
        refine ws_nil ?_
        refine qe_block ?_
        exact qe_loop fun ac2 w2 hs2 => ⟨_, by subst hR; simp <;> omega, seen', R1 ++ R2, xs ++ [pr.1.1.p], v6', ν6', rfl, (hit'), (Row.app (enc := pubL) hown6' rfl (by simp)), (by subst hR; simp at hln ⊢; omega), (fun z => by rw [← hmem z, hR]; simp only [List.mem_append, List.mem_cons, List.not_mem_nil, or_false]; constructor; (rintro ((h | h) | ⟨q, h, hq⟩); exact .inl h; exact .inr ⟨pr, by simp, ⟨h26, by simpa [cmpP] using h30⟩, h.symm⟩; exact .inr ⟨q, by rcases h with h | h <;> simp [h], hq⟩); (rintro (h | ⟨q, h, hq⟩); exact .inl (.inl h); rcases h with h | rfl | h; exact .inr ⟨q, .inl h, hq⟩; exact .inl (.inr hq.2.symm); exact .inr ⟨q, .inr h, hq⟩)), st_sub hs2 _ rfl⟩
      · intro h30
        refine ws_l rfl rfl rfl rfl (rd_pick_t rfl rfl) ?_
        refine ws_nil ?_
        refine qe_then ?_
        refine wc_false rfl ?_
        refine wc_skip ?_
        refine qe_block ?_
        exact qe_loop fun ac2 w2 hs2 => ⟨_, by subst hR; simp <;> omega, seen', R1 ++ R2, xs, v6, ν6, rfl, (hit'), (hown6), (by subst hR; simp at hln ⊢; omega), (fun z => by rw [← hmem z, hR]; simp only [List.mem_append, List.mem_cons]; constructor; (rintro (h | ⟨q, h, hq⟩); exact .inl h; exact .inr ⟨q, by rcases h with h | h <;> simp [h], hq⟩); (rintro (h | ⟨q, h, hq⟩); exact .inl h; rcases h with h | rfl | h; exact .inr ⟨q, .inl h, hq⟩; exact absurd hq (fun hq => h30 (by simpa [cmpP] using hq.1.2)); exact .inr ⟨q, .inr h, hq⟩)), st_sub hs2 _ rfl⟩
    · intro h26
      refine ws_l rfl rfl rfl rfl (rd_move rfl) ?_
      refine ws_xskip rfl rfl rfl rfl ?_
      refine ws_xskip rfl rfl rfl rfl ?_
      refine ws_xskip rfl rfl rfl rfl ?_
      refine ws_l rfl rfl rfl rfl (rd_pick_f rfl rfl) ?_
      refine ws_nil ?_
      refine qe_then ?_
      refine wc_false rfl ?_
      refine wc_skip ?_
      refine qe_block ?_
      exact qe_loop fun ac2 w2 hs2 => ⟨_, by subst hR; simp <;> omega, seen', R1 ++ R2, xs, v6, ν6, rfl, (hit'), (hown6), (by subst hR; simp at hln ⊢; omega), (fun z => by rw [← hmem z, hR]; simp only [List.mem_append, List.mem_cons]; constructor; (rintro (h | ⟨q, h, hq⟩); exact .inl h; exact .inr ⟨q, by rcases h with h | h <;> simp [h], hq⟩); (rintro (h | ⟨q, h, hq⟩); exact .inl h; rcases h with h | rfl | h; exact .inr ⟨q, .inl h, hq⟩; exact absurd hq (fun hq => h26 hq.1.1); exact .inr ⟨q, .inr h, hq⟩)), st_sub hs2 _ rfl⟩

end Go.Proofs.YtheioljidangkaaGreat
