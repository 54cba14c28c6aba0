/- Rows: slices of slices, appends of parts, elements. No conditions: general lemmas. -/
import Derived.Test.YtheioljidangkaaGreatSx
import Derived.Laws.OwnMore
import Derived.Laws.Slices
namespace Go.Sx
open Go Go.RowKit

instance HRep.one (p : Nat × Obj) (ν' η : Heap) : HRep [p] ν' (p :: η) (ν' ++ η) := HRep.head [p] ν' η
/-- the slice value u reads news, m elements of k cells each -/
def Src (η : Heap) (u : Value) (k m : Nat) (news : List Value) : Prop :=
  news.length = m * k ∧ ((u = .slice none 0 0 ∧ m = 0) ∨ ∃ A c, u = .slice (some A) m c ∧ (m = 0 ∨ ∃ b o cs E fr, A = ⟨b, o, none⟩ ∧ (b, Obj.cells cs E fr) ∈ η ∧ ∀ j v, news[j]? = some v → cs[o + j]? = some v))
theorem Src.opened {η : Heap} {u : Value} {k m : Nat} {news : List Value} (h : Src η u k m news) (hm : 0 < m) : ∃ b o c cs E fr, u = .slice (some ⟨b, o, none⟩) m c ∧ (b, Obj.cells cs E fr) ∈ η ∧ ∀ j v, news[j]? = some v → cs[o + j]? = some v := by
  rcases h.2 with ⟨_, h0⟩ | ⟨A, c, hu, h0 | ⟨b, o, cs, E, fr, rfl, h1, h2⟩⟩
  · omega
  · omega
  · exact ⟨b, o, c, cs, E, fr, hu, h1, h2⟩
theorem Src.ofBlock {η : Heap} {b o c k m : Nat} {cs : Array Value} {E : TypeId} {fr : Nat × Nat} {news : List Value} (hl : news.length = m * k) (hm : (b, Obj.cells cs E fr) ∈ η) (h : ∀ j v, news[j]? = some v → cs[o + j]? = some v) : Src η (.slice (some ⟨b, o, none⟩) m c) k m news :=
  ⟨hl, .inr ⟨_, c, rfl, .inr ⟨b, o, cs, E, fr, rfl, hm, h⟩⟩⟩
theorem rd_lenS {P : Program} {σ : Slots} {φ η : Heap} {dst : Option Tmp} {ty : TypeId} {pos : String} {aft : Array Edge} {g : Option (Nat × Bool)} {T E' : TypeId} {x : Operand} {k n : Nat} {v : Value} {xs : List Value} (h : Src η v k n xs) (hx : ev σ x = some v) (hT : P.underlying T = some (.slice E')) :
    Rd P σ φ ⟨dst, .call { callee := .builtin .len, args := #[x], argTypes := #[T] }, ty, pos, aft, g⟩ (.int .i64 n) := by
  rcases h.2 with ⟨rfl, rfl⟩ | ⟨A, c, rfl, _⟩
  · exact rd_len hx hT
  · exact rd_len hx hT
theorem Src.mono {η η' : Heap} {u : Value} {k m : Nat} {news : List Value} (h : Src η u k m news) (hs : ∀ p ∈ η, p ∈ η') : Src η' u k m news := by
  rcases h with ⟨h1, h2 | ⟨A, c, hu, h0 | ⟨b, o, cs, E, fr, rfl, h3, h4⟩⟩⟩
  · exact ⟨h1, .inl h2⟩
  · exact ⟨h1, .inr ⟨A, c, hu, .inl h0⟩⟩
  · exact ⟨h1, .inr ⟨_, c, hu, .inr ⟨b, o, cs, E, fr, rfl, hs _ h3, h4⟩⟩⟩
theorem OwnR.opened {base : Nat} {E : TypeId} {k : Nat} {v : Value} {ν : Heap} {n : Nat} {xs : List Value} (h : OwnR base E k v ν n xs) (hn : 0 < n) :
    ∃ g cap cur, v = .slice (some ⟨g, 0, none⟩) n cap ∧ ν = [(g, .cells cur E (0, 0))] ∧ base ≤ g ∧ n ≤ cap ∧ (∀ i, i < n * k → cur[i]? = xs[i]?) := by
  rcases h with ⟨_, _, h0, _⟩ | ⟨g, cap, cur, h1, h2, h3, h4, h5, h6, h7, h8⟩
  · omega
  · refine ⟨g, cap, cur, h1, h2, h3, h4, fun i hi => ?_⟩
    rw [← h7, List.getElem?_take, if_pos hi]; simp
theorem OwnR.src {base : Nat} {E : TypeId} {k : Nat} {v : Value} {ν : Heap} {n : Nat} {xs : List Value} (h : OwnR base E k v ν n xs) : Src ν v k n xs := by
  refine ⟨h.len, ?_⟩
  rcases h with ⟨h0, _, h1, _⟩ | ⟨g, cap, cur, h1, h2, h3, h4, h5, h6, h7, h8⟩
  · exact .inl ⟨h0, h1⟩
  · refine .inr ⟨_, cap, h1, .inr ⟨g, 0, cur, E, (0, 0), rfl, by simp [h2], fun j u hj => ?_⟩⟩
    rw [← h7, List.getElem?_take] at hj
    split at hj
    · simpa using hj
    · cases hj
section
variable {P : Program} {σ : Slots} {φ : Heap} {dst : Option Tmp} {ty : TypeId} {pos : String} {aft : Array Edge} {g : Option (Nat × Bool)}
theorem rd_slice {T E : TypeId} {x : Operand} {lo hi : Option Operand} {v u : Value} {l h : Option Value} (hT : P.underlying T = some (.slice E)) (hx : ev σ x = some v) (hl : ∀ a : Act, SlOK σ a → lo.map a.eval = l) (hh : ∀ a : Act, SlOK σ a → hi.map a.eval = h)
    (hr : ∀ w, (Instr.slice T v l h none).run P w = .ok u w) : Rd P σ φ ⟨dst, .slice T x lo hi none, ty, pos, aft, g⟩ u := fun a w hs _ => by
  have he : P.elem T = E := by simp [Program.elem, hT]
  simp [execOp, hs.ev hx, hl a hs, hh a hs, run_sliceAt_slice w T v l h none (by rw [he]; exact hT), hr]
theorem rd_slice_h {T E : TypeId} {x y : Operand} {v u : Value} {kd : IntKind} {j : Int} (hT : P.underlying T = some (.slice E)) (hx : ev σ x = some v) (hy : ev σ y = some (.int kd j))
    (hr : ∀ w, (Instr.slice T v none (some (.int kd j)) none).run P w = .ok u w) : Rd P σ φ ⟨dst, .slice T x none (some y) none, ty, pos, aft, g⟩ u :=
  rd_slice hT hx (fun _ _ => rfl) (fun a hs => by simp [hs.ev hy]) hr
theorem rd_slice_l {T E : TypeId} {x y : Operand} {v u : Value} {kd : IntKind} {j : Int} (hT : P.underlying T = some (.slice E)) (hx : ev σ x = some v) (hy : ev σ y = some (.int kd j))
    (hr : ∀ w, (Instr.slice T v (some (.int kd j)) none none).run P w = .ok u w) : Rd P σ φ ⟨dst, .slice T x (some y) none none, ty, pos, aft, g⟩ u :=
  rd_slice hT hx (fun a hs => by simp [hs.ev hy]) (fun _ _ => rfl) hr
end
/-- l[:j] -/
theorem OwnR.upto {P : Program} {base : Nat} {T E E' : TypeId} {k : Nat} {v : Value} {ν : Heap} {n : Nat} {xs : List Value} (h : OwnR base E k v ν n xs) (kd : IntKind) (j : Nat) (hj : j ≤ n) (hT : P.underlying T = some (.slice E')) (hE : ∀ w, (sizeOf E').run P w = .ok k w) :
    ∃ u, (∀ w, (Instr.slice T v none (some (.int kd j)) none).run P w = .ok u w) ∧ Src ν u k j (xs.take (j * k)) := by
  have he : P.elem T = E' := by simp [Program.elem, hT]
  have hT' : P.underlying T = some (.slice (P.elem T)) := by rw [he]; exact hT
  have hlen := h.len
  have hl : (xs.take (j * k)).length = j * k := by rw [List.length_take, hlen]; exact Nat.min_eq_left (Nat.mul_le_mul_right k hj)
  rcases h with ⟨h0, _, h1, h2⟩ | ⟨g, cap, cur, h1, h2, h3, h4, h5, h6, h7, h8⟩
  · subst h0; subst h1
    have hj0 : j = 0 := by omega
    subst hj0
    refine ⟨.slice none 0 0, fun w => ?_, hl, .inl ⟨rfl, rfl⟩⟩
    rw [run_slice_h w T none 0 0 hT' kd (0 : Nat) (by simp) (by simp), he, hE]
    simp [sliced]
  · subst h1
    refine ⟨.slice (some ⟨g, 0, none⟩) j cap, fun w => ?_, hl, .inr ⟨_, cap, rfl, .inr ⟨g, 0, cur, E, (0, 0), rfl, by simp [h2], fun i u hi => ?_⟩⟩⟩
    · rw [run_slice_h w T (some ⟨g, 0, none⟩) n cap hT' kd (j : Nat) (by omega) (by omega), he, hE]
      simp [sliced, add_plain]
    · rw [List.getElem?_take] at hi
      split at hi
      · rw [← h7, List.getElem?_take] at hi
        split at hi
        · simpa using hi
        · cases hi
      · cases hi
/-- l[j:] -/
theorem OwnR.behind {P : Program} {base : Nat} {T E E' : TypeId} {k : Nat} {v : Value} {ν : Heap} {n : Nat} {xs : List Value} (h : OwnR base E k v ν n xs) (kd : IntKind) (j : Nat) (hj : j ≤ n) (hT : P.underlying T = some (.slice E')) (hE : ∀ w, (sizeOf E').run P w = .ok k w) :
    ∃ u, (∀ w, (Instr.slice T v (some (.int kd j)) none none).run P w = .ok u w) ∧ Src ν u k (n - j) (xs.drop (j * k)) := by
  have he : P.elem T = E' := by simp [Program.elem, hT]
  have hT' : P.underlying T = some (.slice (P.elem T)) := by rw [he]; exact hT
  have hlen := h.len
  have hl : (xs.drop (j * k)).length = (n - j) * k := by rw [List.length_drop, hlen, Nat.sub_mul]
  rcases h with ⟨h0, _, h1, h2⟩ | ⟨g, cap, cur, h1, h2, h3, h4, h5, h6, h7, h8⟩
  · subst h0; subst h1
    have hj0 : j = 0 := by omega
    subst hj0
    refine ⟨.slice none 0 0, fun w => ?_, hl, .inl ⟨rfl, rfl⟩⟩
    rw [run_slice_l w T none 0 0 hT' kd (0 : Nat) (by simp) (by simp), he, hE]
    simp [sliced]
  · subst h1
    have key : ∀ w, (Instr.slice T (.slice (some ⟨g, 0, none⟩) n cap) (some (.int kd j)) none none).run P w = .ok (sliced (some ⟨g, 0, none⟩) j n cap k) w := fun w => by
      rw [run_slice_l w T (some ⟨g, 0, none⟩) n cap hT' kd (j : Nat) (by omega) (by omega), he, hE]
      simp
    refine ⟨_, key, hl, ?_⟩
    by_cases hc : cap = j
    · have hn : n - j = 0 := by omega
      refine .inr ⟨⟨g, 0, none⟩, cap - j, by simp [sliced, hc], .inr ⟨g, 0, cur, E, (0, 0), rfl, by simp [h2], fun i u hi => ?_⟩⟩
      have := (List.getElem?_eq_some_iff.1 hi).1
      rw [hl, hn] at this
      omega
    · refine .inr ⟨⟨g, j * k, none⟩, cap - j, by simp [sliced, hc, add_plain], .inr ⟨g, j * k, cur, E, (0, 0), rfl, by simp [h2], fun i u hi => ?_⟩⟩
      rw [List.getElem?_drop, ← h7, List.getElem?_take] at hi
      split at hi
      · simpa using hi
      · cases hi

section
variable {κr : Option Nat} {P : Program} {n : Fm} {w0 : World} {S : List Nat} {σ : Slots} {η π : Heap} {l : List Oper} {N : Act → World → Prop} {q : List (Nat × Kd)} {late : Bool} {i : Nat}
  {ty : TypeId} {pos : String} {aft : Array Edge} {g : Option (Nat × Bool)} {d : Nat}
/-- append of what another slice reads -/
theorem ws_appendSB {base : Nat} {T E : TypeId} {k bytes : Nat} [hT : SliceT P T E k bytes] {s x : Operand} {v u : Value} {ν : Heap} {η' : Heap → Heap} {len m : Nat} {xs news : List Value}
    (ho : opAt l i = some ⟨some d, .call { callee := .builtin .append, args := #[s, x], argTypes := #[T, T] }, ty, pos, aft, g⟩) (hdn : Nat.blt d n.n = true) (hg : gd l σ g = some true)
    (hs' : ev σ s = some v) (hx : ev σ x = some u) (hown : OwnR base E k v ν len xs) (hsrc : Src η u k m news) [hrep : ∀ ν', HRep ν ν' η (η' ν')]
    (h1 : ∀ u ∈ news, u.oneCell' = true) (hbase : base ≤ w0.heap.size) (hfar0 : ∀ b ∈ ν.map Prod.fst, w0.heap.size ≤ b ∨ b ∈ S) (h63 : len + m ≤ maxLen) (hby : (len + m) * bytes ≤ 140737488355328) (hπ' : ∀ ν', (∀ p ∈ π, p ∈ η) → ∀ p ∈ π, p ∈ η' ν')
    (kk : ∀ v' ν', OwnR base E k v' ν' (len + m) (xs ++ news) → (∀ b ∈ ν'.map Prod.fst, w0.heap.size ≤ b ∨ b ∈ ν.map Prod.fst) → WS κr P l π N n w0 S ((d, v') :: σ) (η' ν') q) : WS κr P l π N n w0 S σ η ((i, .x late) :: q) :=
  ws_x ho hg fun hπ a w hs => by
    obtain ⟨inf, z, hi, hz, hsz, hb, hzc⟩ := hT.info
    obtain ⟨hl, hu⟩ := hsrc
    obtain ⟨α, β, e1, _⟩ := (hrep []).go
    have hpν : HpOK ν w := hs.hp.mono fun p hp => by rw [e1]; exact List.mem_append_right _ (List.mem_append_left _ hp)
    rcases hu with ⟨rfl, rfl⟩ | ⟨A, c, rfl, hrd⟩
    · have hrun := run_append_owned_none (P := P) (w := w) base T ty E inf k hT.ht hi v len xs (hown.owns hpν)
      have hrun' : (execOp a.eval ⟨some d, .call { callee := .builtin .append, args := #[s, x], argTypes := #[T, T] }, ty, pos, aft, g⟩).run P w = .ok (.value v) w := by
        simp only [execOp, resolve, invoke, builtin, Sem.run_bind, Sem.run_pure, Result.andThen_ok, List.map_toArray, List.map_cons, List.map_nil, hs.sl.ev hs', hs.sl.ev hx, hrun]
      unfold OW
      rw [hrun']
      have hn0 : news = [] := List.eq_nil_of_length_eq_zero (by simpa using hl)
      subst hn0
      obtain ⟨α', β', e1', e2'⟩ := (hrep ν).go
      have hη : η' ν = η := by rw [e2', e1']
      have hkk := kk v ν (by simpa using hown) (fun _ h => .inr h)
      rw [hη] at hkk
      exact ⟨fun _ => hs.hp.mono hπ, hkk hπ _ _ (hs.put v hdn)⟩
    · have hnews : ∀ j u, news[j]? = some u → w.cell? (A.add j) = some u := fun j u hj => by
        rcases hrd with rfl | ⟨b, o, cs, E', fr, rfl, hm, hcs⟩
        · have := (List.getElem?_eq_some_iff.1 hj).1
          simp at hl; subst hl; simp at this
        rw [add_plain]
        simp only [World.cell?, hs.hp _ _ hm, Option.isSome_none, Bool.false_eq_true, if_false]
        exact hcs j u hj
      obtain ⟨v', w', hrun, hown', hgr, _, hblk⟩ := run_append_own_at (P := P) w base T ty E inf z k bytes hT.ht hi hz hsz hb hzc hT.pos v len xs (hown.owns hpν) A m c news hl hnews h1 h63 hby (Nat.le_trans hbase hs.on.size)
      have hrun' : (execOp a.eval ⟨some d, .call { callee := .builtin .append, args := #[s, x], argTypes := #[T, T] }, ty, pos, aft, g⟩).run P w = .ok (.value v') w' := by
        simp only [execOp, resolve, invoke, builtin, Sem.run_bind, Sem.run_pure, Result.andThen_ok, List.map_toArray, List.map_cons, List.map_nil, hs.sl.ev hs', hs.sl.ev hx, hrun]
      unfold OW
      rw [hrun']
      obtain ⟨ν', hν', hp', hnd', hbk⟩ := OwnR.of hown'
      obtain ⟨α', β', e1', e2'⟩ := (hrep ν').go
      have hnd0 := hs.nd
      rw [e1', List.map_append, List.map_append, List.nodup_append, List.nodup_append] at hnd0
      obtain ⟨hna, ⟨hnν, hnβ, hνβ⟩, haνβ⟩ := hnd0
      have hown_blk : ∀ b', v.ownBlock = some b' → b' ∈ ν.map Prod.fst := fun b' hb' => by
        rcases hown.blocks with ⟨h0, _⟩ | ⟨g0, o0, h0, h00, _⟩
        · rw [h0] at hb'; cases hb'
        · rw [h0] at hb'; cases hb'; rw [h00]; simp
      have keep : ∀ μ : Heap, HpOK μ w → (∀ b' ∈ ν.map Prod.fst, b' ∉ μ.map Prod.fst) → HpOK μ w' := fun μ hμ hf b' o' hm' => by
        rw [hgr.block b' (hμ.lt hm') (fun e => hf b' (hown_blk b' e.symm) (List.mem_map.2 ⟨_, hm', rfl⟩))]
        exact hμ b' o' hm'
      have hpα : HpOK α' w := hs.hp.mono fun p hp => by rw [e1']; exact List.mem_append_left _ hp
      have hpβ : HpOK β' w := hs.hp.mono fun p hp => by rw [e1']; exact List.mem_append_right _ (List.mem_append_right _ hp)
      have hpη' : HpOK (η' ν') w' := by
        rw [e2']
        refine (keep α' hpα fun b' hb' hm' => haνβ b' hm' b' (List.mem_append_left _ hb') rfl).append (hp'.append (keep β' hpβ fun b' hb' hm' => hνβ b' hb' b' hm' rfl))
      have hfar : ∀ b' ∈ ν'.map Prod.fst, b' ∈ ν.map Prod.fst ∨ w.heap.size ≤ b' := fun b' hb' => by
        have h2 := hbk b' hb'
        rcases hblk with h3 | h3
        · exact .inl (hown_blk b' (by rw [← h3]; exact h2))
        · rw [h3] at h2; cases h2; exact .inr (Nat.le_refl _)
      have hnd1 : ((η' ν').map Prod.fst).Nodup := by
        rw [e2', List.map_append, List.map_append, List.nodup_append, List.nodup_append]
        refine ⟨hna, ⟨hnd', hnβ, fun x hx y hy hxy => ?_⟩, fun x hx y hy hxy => ?_⟩
        · subst hxy
          rcases hfar x hx with h | h
          · exact hνβ x h x hy rfl
          · exact hpβ.not_mem h hy
        · subst hxy
          rcases List.mem_append.1 hy with h | h
          · rcases hfar x h with h | h
            · exact haνβ x hx x (List.mem_append_left _ h) rfl
            · exact hpα.not_mem h hx
          · exact haνβ x hx x (List.mem_append_right _ h) rfl
      have hon : Only S w0 w' := by
        refine hs.on.trans (S' := ν.map Prod.fst) ⟨hgr.os, hgr.tape, hgr.output, hgr.size, fun b' hb' hn' => hgr.block b' hb' (fun e => hn' (hown_blk b' e.symm)), run_drawn _ _ hrun⟩ hfar0
      have h0 : St n w0 S σ (η' ν') a w' := ⟨hs.df, hs.sz, hs.sl, hpη', hnd1, hon⟩
      have hsub := hπ' ν' hπ
      exact ⟨fun _ => hpη'.mono hsub, kk v' ν' hν' (fun b' hb' => (hfar b' hb').elim .inr (fun h => .inl (Nat.le_trans hs.on.size h))) hsub _ _ (h0.put v' hdn)⟩
theorem ws_appendS {T E : TypeId} {k bytes : Nat} [hT : SliceT P T E k bytes] {s x : Operand} {v u : Value} {ν : Heap} {η' : Heap → Heap} {len m : Nat} {xs news : List Value}
    (ho : opAt l i = some ⟨some d, .call { callee := .builtin .append, args := #[s, x], argTypes := #[T, T] }, ty, pos, aft, g⟩) (hdn : Nat.blt d n.n = true) (hg : gd l σ g = some true)
    (hs' : ev σ s = some v) (hx : ev σ x = some u) (hown : OwnR w0.heap.size E k v ν len xs) (hsrc : Src η u k m news) [hrep : ∀ ν', HRep ν ν' η (η' ν')]
    (h1 : ∀ u ∈ news, u.oneCell' = true) (h63 : len + m ≤ maxLen) (hby : (len + m) * bytes ≤ 140737488355328) (hπ' : ∀ ν', (∀ p ∈ π, p ∈ η) → ∀ p ∈ π, p ∈ η' ν')
    (kk : ∀ v' ν', OwnR w0.heap.size E k v' ν' (len + m) (xs ++ news) → WS κr P l π N n w0 S ((d, v') :: σ) (η' ν') q) : WS κr P l π N n w0 S σ η ((i, .x late) :: q) :=
  ws_appendSB (base := w0.heap.size) ho hdn hg hs' hx hown hsrc h1 (Nat.le_refl _) (fun b' hb' => by
    rcases hown.blocks with ⟨_, h0⟩ | ⟨g0, o0, _, h00, h1⟩
    · rw [h0] at hb'; simp at hb'
    · rw [h00] at hb'; simp at hb'; subst hb'; exact .inl h1) h63 hby hπ' (fun v' ν' h _ => kk v' ν' h)
end

/-! rows of typed elements -/
theorem flat_at {α : Type} {enc : α → List Value} {k : Nat} (hk : ∀ x, (enc x).length = k) : ∀ (xs : List α) (j i : Nat) (x : α), xs[j]? = some x → i < k → (xs.flatMap enc)[j * k + i]? = (enc x)[i]?
  | [], _, _, _, h, _ => by simp at h
  | y :: r, 0, i, x, h, hi => by
    simp at h; subst h
    rw [List.flatMap_cons, Nat.zero_mul, Nat.zero_add, List.getElem?_append_left (by rw [hk]; exact hi)]
  | y :: r, j + 1, i, x, h, hi => by
    have h' : r[j]? = some x := by simpa using h
    rw [List.flatMap_cons, List.getElem?_append_right (by rw [hk, Nat.succ_mul]; omega), hk, ← flat_at hk r j i x h' hi]
    congr 1
    rw [Nat.succ_mul]; omega
theorem flat_len {α : Type} {enc : α → List Value} {k : Nat} (hk : ∀ x, (enc x).length = k) : ∀ xs : List α, (xs.flatMap enc).length = xs.length * k
  | [] => by simp
  | y :: r => by rw [List.flatMap_cons, List.length_append, hk, flat_len hk r, List.length_cons, Nat.succ_mul, Nat.add_comm]
theorem flat_take {α : Type} {enc : α → List Value} {k : Nat} (hk : ∀ x, (enc x).length = k) : ∀ (xs : List α) (j : Nat), (xs.flatMap enc).take (j * k) = (xs.take j).flatMap enc
  | [], j => by simp
  | y :: r, 0 => by simp
  | y :: r, j + 1 => by
    rw [List.flatMap_cons, List.take_succ_cons, List.flatMap_cons, List.take_append, hk, ← flat_take hk r j]
    rw [List.take_of_length_le (by rw [hk, Nat.succ_mul]; omega)]
    congr 2
    rw [Nat.succ_mul]; omega
theorem flat_drop {α : Type} {enc : α → List Value} {k : Nat} (hk : ∀ x, (enc x).length = k) : ∀ (xs : List α) (j : Nat), (xs.flatMap enc).drop (j * k) = (xs.drop j).flatMap enc
  | [], j => by simp
  | y :: r, 0 => by simp
  | y :: r, j + 1 => by
    rw [List.flatMap_cons, List.drop_succ_cons, List.drop_append, hk, ← flat_drop hk r j]
    rw [List.drop_eq_nil_of_le (by rw [hk, Nat.succ_mul]; omega), List.nil_append]
    congr 1
    rw [Nat.succ_mul]; omega
/-- the slice v reads the elements xs, k cells each -/
abbrev Row {α : Type} (base : Nat) (E : TypeId) (k : Nat) (enc : α → List Value) (v : Value) (ν : Heap) (xs : List α) : Prop := OwnR base E k v ν xs.length (xs.flatMap enc)
theorem Row.app {α : Type} {base : Nat} {E : TypeId} {k : Nat} {enc : α → List Value} {v : Value} {ν : Heap} {xs ys : List α} {m : Nat} {news : List Value} (h : OwnR base E k v ν (xs.length + m) (xs.flatMap enc ++ news)) (hm : m = ys.length) (hn : news = ys.flatMap enc) : Row base E k enc v ν (xs ++ ys) := by
  subst hm; subst hn
  rw [← List.length_append, ← List.flatMap_append] at h
  exact h
end Go.Sx
