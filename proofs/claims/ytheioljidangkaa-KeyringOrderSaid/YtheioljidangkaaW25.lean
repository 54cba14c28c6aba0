/- Walks: Clone. No conditions. -/
import Derived.Test.YtheioljidangkaaW24
namespace Go.Proofs.Ytheioljidangkaa
open Go Go.RowKit Go.Sx
set_option linter.unusedSimpArgs false
set_option linter.unusedVariables false

def CloneTo (own : List RK) (w : World) (u : Value) (w' : World) : Prop := ∃ (p m k : Nat) (es : Array MapEntry) (c : Nat) (ws : Array MapEntry) (d : Nat) (L : RMap) (W : WMap) (own2 : List RK), u = ptr p ∧
  HpOK (ringP p m k :: ringT m k es c ws d (facts W)) w' ∧ ((ringP p m k :: ringT m k es c ws d (facts W)).map Prod.fst).Nodup ∧ (∀ b ∈ (ringP p m k :: ringT m k es c ws d (facts W)).map Prod.fst, w.heap.size ≤ b) ∧
  MapIs (idK (n := 32)) rkK es c L ∧ MapIs plE pvE ws d W ∧ RingOK L W own2 ∧ own2.Perm own
theorem nd_miss {L2 : RMap} {W2 : WMap} {own own2 : List RK} {R1 R2 : List (Id × RK)} {pr : Id × RK} (h2 : RingOK L2 W2 own2) (hnd : (own.map RK.id).Nodup) (hp : (own2 ++ (R1 ++ pr :: R2).map Prod.snd).Perm own) : mlook L2 pr.2.id = none := by
  cases hl : mlook L2 pr.2.id with
  | none => rfl
  | some y =>
    obtain ⟨hy, he⟩ := h2.look hl
    have h := (hp.map RK.id).nodup_iff.2 hnd
    rw [List.map_append, List.nodup_append] at h
    exact absurd he (h.2.2 y.id (List.mem_map.2 ⟨y, hy, rfl⟩) pr.2.id (by simp))
theorem perm_step {own own2 : List RK} {R1 R2 : List (Id × RK)} {pr : Id × RK} (hp : (own2 ++ (R1 ++ pr :: R2).map Prod.snd).Perm own) : ((own2 ++ [pr.2]) ++ (R1 ++ R2).map Prod.snd).Perm own := by
  refine List.Perm.trans ?_ hp
  rw [List.append_assoc]
  refine List.Perm.append_left own2 ?_
  rw [List.map_append, List.map_append, List.map_cons]
  show (pr.2 :: (R1.map Prod.snd ++ R2.map Prod.snd)).Perm (R1.map Prod.snd ++ pr.2 :: R2.map Prod.snd)
  exact List.perm_middle.symm
set_option maxRecDepth 100000 in
set_option maxHeartbeats 4000000 in
theorem clone_ret (p m k : Nat) (es ws : Array MapEntry) (c d : Nat) (L : RMap) (W : WMap) (own : List RK) (hL : MapIs (idK (n := 32)) rkK es c L) (hW : MapIs plE pvE ws d W) (hok : RingOK L W own) (hlen : own.length < 8192) (w : World) (hη : HpOK (ringP p m k :: ringT m k es c ws d (facts W)) w) (hnd : ((ringP p m k :: ringT m k es c ws d (facts W)).map Prod.fst).Nodup) : Ret Try.prog 24 [ptr p] w [] (CloneTo own w) := by
  refine enter (n := 22) (args := [ptr p]) [] (ringP p m k :: ringT m k es c ws d (facts W)) Try.func24 rfl rfl rfl hη hnd ?_
  refine wc_seq ?_
  refine wc_plain [(0, .x true)] (by kernel_rfl) ?_
  refine ws_l rfl rfl rfl rfl (rd_assign rfl) ?_
  refine ws_nil ?_
  refine qe_then ?_
  refine wc_seq ?_
  refine wc_seq ?_
  refine wc_plain [(0, .x true), (1, .x true)] (by kernel_rfl) ?_
  refine ws_l rfl rfl rfl rfl (rd_move rfl) ?_
  refine ws_l rfl rfl rfl rfl (rd_ptr_nil rfl rfl Try.underlying25 rfl) ?_
  refine ws_nil ?_
  refine qe_then ?_
  refine wc_false rfl ?_
  refine wc_skip ?_
  refine qe_then ?_
  refine wc_seq ?_
  refine wc_plain [(0, .x true), (1, .x true)] (by kernel_rfl) ?_
  refine ws_call rfl rfl rfl rfl rfl (En.go) (fun w hp hn ho => new_ret w) (fun _ h => by cases h) (fun hh q h => by first | (cases h; done) | exact hh q h) ?_
  rintro v8 wa wb hpo hon hon2 hp1 ⟨p2, m2, k2, rfl, hp0, hm0, hk0, hnd0, hph⟩
  refine ⟨_, hph, by simpa using hnd0, fun b hb => by simp at hb; rcases hb with rfl | rfl | rfl; exact .inl hp0; exact .inl hm0; exact .inl hk0, ?_⟩
  replace hp0 := Nat.le_trans hon.size hp0
  replace hm0 := Nat.le_trans hon.size hm0
  replace hk0 := Nat.le_trans hon.size hk0
  simp only [List.cons_append, List.nil_append]
  refine ws_l rfl rfl rfl rfl (rd_assign rfl) ?_
  refine ws_nil ?_
  refine qe_then ?_
  refine wc_seq ?_
  refine wc_seq ?_
  refine wc_plain [(0, .x true), (1, .x true), (2, .x true), (3, .x true), (4, .x true)] (by kernel_rfl) ?_
  refine ws_l rfl rfl rfl rfl (rd_move rfl) ?_
  refine ws_l rfl rfl rfl rfl (rd_nil rfl) ?_
  refine ws_l rfl rfl rfl rfl (rd_fieldAddr rfl) ?_
  refine ws_l rfl rfl rfl rfl (rd_load rfl) ?_
  refine ws_range Try.underlying91 rfl rfl rfl rfl ?_
  intro b13 hb13
  refine ws_nil ?_
  refine qe_then ?_
  refine wc_keep [(2, _), (3, _), (13, _)] rfl ?_
  refine wc_block ?_
  refine wc_loop (fun mz ac w1 => ∃ (seen : Array Nat) (R : RMap) (es2 : Array MapEntry) (c2 : Nat) (ws2 : Array MapEntry) (d2 : Nat) (L2 : RMap) (W2 : WMap) (own2 : List RK), mz = R.length ∧ (IterIs (idK (n := 32)) rkK es seen R) ∧ (MapIs (idK (n := 32)) rkK es2 c2 L2) ∧ (MapIs plE pvE ws2 d2 W2) ∧ (RingOK L2 W2 own2) ∧ ((own2 ++ R.map Prod.snd).Perm own) ∧ (∀ b ∈ (ringT m2 k2 es2 c2 ws2 d2 (facts W2)).map Prod.fst, w.heap.size ≤ b) ∧ St 22 w [] [(3, ptr p2), (13, ptr b13)] ((b13, .mapIter (some m) c seen c) :: ringP p2 m2 k2 :: ((ringT m2 k2 es2 c2 ws2 d2 (facts W2)) ++ (ringP p m k :: ringT m k es c ws d (facts W)))) ac w1) _ (fun ac w1 hs => ⟨#[], L, #[], 0, #[], 0, [], [], [], rfl, (IterIs.start hL), (MapIs.empty _ _ 0), (MapIs.empty _ _ 0), (RingOK.empty), (by rw [hok.rows, List.map_map]; simp [Function.comp_def]), (fun b hb => by simp [facts] at hb; rcases hb with rfl | rfl; exact hm0; exact hk0), st_sub hs _ rfl⟩) ?_
  rintro _ ac1 wl1 ⟨seen, R, es2, c2, ws2, d2, L2, W2, own2, rfl, hit, hL2, hW2, hok2, hperm, hfar, hs1⟩
  refine wc_at hs1 ?_
  refine wc_seq ?_
  refine wc_plain [(0, .x true), (1, .x true)] (by kernel_rfl) ?_
  refine ws_next (ek := idK (n := 32)) (en := rkK) hL hit rfl rfl rfl rfl (Nat.le_refl _) (.inl hb13) ?_ ?_
  · intro hR
    refine ws_l rfl rfl rfl rfl (rd_extract rfl) ?_
    refine ws_nil ?_
    refine qe_then ?_
    refine wc_seq ?_
    refine wc_false rfl ?_
    refine wc_exit ?_
    refine qe_then_exit ?_
    refine qe_then_exit ?_
    refine qe_block_exit ?_
    refine qe_then ?_
    refine wc_seq ?_
    refine wc_plain [(0, .x true), (1, .x true)] (by kernel_rfl) ?_
    refine ws_l rfl rfl rfl rfl (rd_move rfl) ?_
    refine ws_l rfl rfl rfl rfl (rd_assign rfl) ?_
    refine ws_nil ?_
    refine qe_then ?_
    refine wc_keep [(2, _)] rfl ?_
    refine wc_ret ?_
    refine qe_body _ (.inl rfl) (res1 rfl (RV.tmp rfl)) ?_
    exact ret_end fun w2 hp hn ho => ⟨p2, m2, k2, es2, c2, ws2, d2, L2, W2, own2, rfl, hp.mono SubH.mem, SubH.nd hn, fun b hb => by rw [List.map_cons, List.mem_cons] at hb; exact hb.elim (fun h => by rw [h]; exact hp0) (hfar b), hL2, hW2, hok2, by rw [hR] at hperm; simpa using hperm⟩
  · intro R1 pr R2 seen' hR hit' hcu
    rw [hR] at hperm
    have hprm : pr.2 ∈ own := hperm.mem_iff.1 (by simp)
    have hmiss := nd_miss hok2 hok.nd hperm
    have hl2 : own2.length < 8192 := by have := hperm.length_eq; simp only [List.length_append] at this; omega
    refine ws_l rfl rfl rfl rfl (rd_extract rfl) ?_
    refine ws_nil ?_
    refine qe_then ?_
    refine wc_seq ?_
    refine wc_true rfl ?_
    refine wc_skip ?_
    refine qe_then ?_
    refine wc_block ?_
    refine wc_seq ?_
    refine wc_plain [(0, .x true), (1, .x true), (2, .x true), (3, .x true)] (by kernel_rfl) ?_
    refine ws_l rfl rfl rfl rfl (rd_entry (ek := idK (n := 32)) (en := rkK) hL hcu rfl) ?_
    refine ws_l rfl rfl rfl rfl (rd_extract rfl) ?_
    refine ws_alloc rfl rfl rfl ?_
    intro b5 hb5
    refine ws_store rfl rfl rfl rfl (by first | exact .inl (by assumption) | exact .inr (by simp)) (fun _ h _ => by first | (cases h; done) | exact List.mem_cons_of_mem _ h | exact List.mem_cons_of_mem _ (List.mem_cons_of_mem _ h) | (simp at h ⊢; simp [h])) ?_
    refine ws_nil ?_
    refine qe_then ?_
    refine wc_plain [(0, .x true), (1, .x true), (2, .x true)] (by kernel_rfl) ?_
    refine ws_l rfl rfl rfl rfl (rd_move rfl) ?_
    refine ws_l rfl rfl rfl rfl (rd_load rfl) ?_
    refine ws_callV (ringT m2 k2 es2 c2 ws2 d2 (facts W2)) rfl rfl rfl rfl rfl (En.go) (fun w hp hn ho => put_ret p2 m2 k2 es2 ws2 c2 d2 L2 W2 own2 hL2 hW2 hok2 hl2 pr.2 (hok.ok _ hprm) hmiss w (hp.mono SubH.mem) (SubH.nd hn)) (fun b hb => .inl (hfar b hb)) (fun hh q h => by first | (cases h; done) | exact hh q h | (simp only [List.mem_append, List.mem_cons] at h ⊢; grind) | skip) ?_
    rintro v20 wa wb hpo hon hon2 hp1 ⟨es3, c3, ws3, d3, L3, W3, hp3, hnd3, hfar3, hL3, hW3, hok3⟩
    refine ⟨ringT m2 k2 es3 c3 ws3 d3 (facts W3), hp3, hnd3, hfar3, ?_⟩
    have hfar4 : ∀ b ∈ (ringT m2 k2 es3 c3 ws3 d3 (facts W3)).map Prod.fst, w.heap.size ≤ b := fun b hb => (hfar3 b hb).elim (fun h => Nat.le_trans hon.size h) (hfar b)
    simp only [List.cons_append, List.append_assoc]
    refine ws_nil ?_
    refine qe_block ?_
    exact qe_loop fun ac2 w2 hs2 => ⟨_, by subst hR; simp, seen', R1 ++ R2, es3, c3, ws3, d3, L3, W3, own2 ++ [pr.2], rfl, (hit'), (hL3), (hW3), (hok3), (perm_step hperm), (hfar4), st_sub hs2 _ rfl⟩

end Go.Proofs.Ytheioljidangkaa
