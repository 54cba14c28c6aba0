/- Rows of identities, orders, predicates of identities. No conditions. -/
import Derived.Test.YtaagmgpfpaanlaaSet
import Derived.Test.YtaagmgpfpaanlaaSort
namespace Go.Proofs.Ytaagmgpfpaanlaa
open Go Go.RowKit Go.Sx
set_option linter.unusedVariables false
set_option linter.unusedSimpArgs false
theorem flat_set {α : Type} {enc : α → List Value} {k : Nat} (hk : ∀ x, (enc x).length = k) (xs : List α) (i : Nat) (x : α) (hi : i < xs.length) : (xs.set i x).flatMap enc = (xs.flatMap enc).take (i * k) ++ enc x ++ (xs.flatMap enc).drop (i * k + k) := by
  rw [List.set_eq_take_append_cons_drop, if_pos hi, List.flatMap_append, List.flatMap_cons, flat_take hk, ← Nat.succ_mul, flat_drop hk, List.append_assoc]
theorem ids_set {base g cap : Nat} {cur : Array Value} {zs : List Id} {i : Nat} (h : OwnR base 38 32 (.slice (some ⟨g, 0, none⟩) zs.length cap) [(g, .cells cur 38 (0, 0))] zs.length (idsL zs)) (hi : i < zs.length) (x : Id) :
    ∃ cur', WritesAt Try.prog 38 cur (i * 32) (idK x) cur' ∧ OwnR base 38 32 (.slice (some ⟨g, 0, none⟩) zs.length cap) [(g, .cells cur' 38 (0, 0))] zs.length (idsL (zs.set i x)) := by
  rcases h with ⟨h0, _⟩ | ⟨g', cap', cur', h1, h2, h3, h4, h5, h6, h7, h8⟩
  · cases h0
  simp only [Value.slice.injEq, Option.some.injEq, Addr.mk.injEq, and_true, true_and] at h1
  obtain ⟨rfl, rfl⟩ := h1
  simp only [List.cons.injEq, Prod.mk.injEq, Obj.cells.injEq, and_true, true_and] at h2
  subst h2
  have hcap : zs.length * 32 ≤ cur.size := by rw [h6]; exact Nat.mul_le_mul_right 32 h4
  have hi32 : i * 32 + 32 ≤ zs.length * 32 := by omega
  refine ⟨(cur.toList.take (i * 32) ++ idL x ++ cur.toList.drop (i * 32 + 32)).toArray, WritesAt.of Try.sizeOf38 (idC_size _) (idC_one _) (by omega) (by rfl), .inr ⟨g, cap, _, rfl, rfl, h3, h4, h5, ?_, ?_, by rw [flat_len idL_len, List.length_set]⟩⟩
  · rw [List.size_toArray, List.length_append, List.length_append, List.length_take, List.length_drop, idL_len, Array.length_toList, ← h6]; omega
  · have e : cur.toList = idsL zs ++ cur.toList.drop (zs.length * 32) := by rw [← h7, List.take_append_drop]
    have hl : (idsL zs).length = zs.length * 32 := flat_len idL_len zs
    rw [show idsL (zs.set i x) = (zs.set i x).flatMap idL from rfl, flat_set idL_len zs i x hi]
    show (cur.toList.take (i * 32) ++ idL x ++ cur.toList.drop (i * 32 + 32)).take (zs.length * 32) = _
    generalize cur.toList.drop (zs.length * 32) = rest at e
    have e1 : (idsL zs ++ rest).take (i * 32) = (idsL zs).take (i * 32) := List.take_append_of_le_length (by omega)
    have e2 : (idsL zs ++ rest).drop (i * 32 + 32) = (idsL zs).drop (i * 32 + 32) ++ rest := List.drop_append_of_le_length (by omega)
    rw [e, e1, e2, ← List.append_assoc, List.take_append_of_le_length (by simp only [List.length_append, List.length_take, List.length_drop, idL_len, hl]; omega), List.take_of_length_le (by simp only [List.length_append, List.length_take, List.length_drop, idL_len, hl]; omega)]
theorem ids_get {cur : Array Value} {zs : List Id} (hcur : ∀ i, i < zs.length * 32 → cur[i]? = (idsL zs)[i]?) {j : Nat} {x : Id} (hx : zs[j]? = some x) : ReadsAt Try.prog 38 cur (j * 32) (idK x) :=
  ReadsAt.agg (k := 32) (idC_size _) (fun t ht => by
    have hj := (List.getElem?_eq_some_iff.1 hx).1
    rw [hcur _ (by omega), flat_at idL_len zs j t x hx ht]; simp)
theorem ids_src {cs : Array Value} {o : Nat} {zs : List Id} (h : ∀ (j : Nat) (v : Value), (idsL zs)[j]? = some v → cs[o + j]? = some v) {j : Nat} {x : Id} (hx : zs[j]? = some x) : ReadsAt Try.prog 38 cs (o + j * 32) (idK x) :=
  ReadsAt.agg (k := 32) (idC_size _) (fun t ht => by
    have h1 := flat_at idL_len zs j t x hx ht
    have hv : (idL x)[t]? = some ((idC x)[t]'(by rw [idC_size]; exact ht)) := by simp [idC_size, ht]
    rw [hv] at h1
    rw [Nat.add_assoc, h _ _ h1]
    simp [idC_size, ht])
theorem ids_src37 {cs : Array Value} {o : Nat} {zs : List Id} (h : ∀ (j : Nat) (v : Value), (idsL zs)[j]? = some v → cs[o + j]? = some v) {j : Nat} {x : Id} (hx : zs[j]? = some x) : ReadsAt Try.prog 37 cs (o + j * 32) (idK x) :=
  ReadsAt.agg (k := 32) (idC_size _) (fun t ht => by
    have h1 := flat_at idL_len zs j t x hx ht
    have hv : (idL x)[t]? = some ((idC x)[t]'(by rw [idC_size]; exact ht)) := by simp [idC_size, ht]
    rw [hv] at h1
    rw [Nat.add_assoc, h _ _ h1]
    simp [idC_size, ht])
/-! predicates -/
structure IsDel (fd : Nat) (caps : Array Value) (κ : Heap) (del : Id → Bool) : Prop where
  en : ∀ args w, (callFunc fd args).run Try.prog w = .ok (.enter fd args) w
  ret : ∀ id w, HpOK κ w → (κ.map Prod.fst).Nodup → Ret Try.prog fd ([idK id] ++ caps.toList) w [] (fun v _ => v = .bool (del id))
def idxP (del : Id → Bool) : List Id → Nat → Int
  | [], _ => -1
  | x :: r, k => if del x = true then k else idxP del r (k + 1)
theorem idxP_any {del : Id → Bool} : ∀ {xs : List Id} {k : Nat}, 0 ≤ idxP del xs k ↔ xs.any del = true
  | [], k => by simp [idxP]
  | x :: r, k => by
    by_cases h : del x = true
    · simp [idxP, h]
    · simp [idxP, h, idxP_any (xs := r) (k := k + 1)]
theorem idxP_none {del : Id → Bool} {xs : List Id} {k : Nat} (h : ¬ (0 ≤ idxP del xs k)) : xs.any del = false := by
  cases hb : xs.any del with
  | true => exact absurd (idxP_any.2 hb) h
  | false => rfl
theorem idxP_first {del : Id → Bool} : ∀ (xs : List Id) (k : Nat), (idxP del xs k = -1 ∧ xs.filter (fun x => !del x) = xs) ∨ ∃ i, i < xs.length ∧ idxP del xs k = ((k + i : Nat) : Int) ∧ xs.take i = (xs.take (i + 1)).filter (fun x => !del x)
  | [], k => .inl ⟨rfl, rfl⟩
  | x :: r, k => by
    by_cases h : del x = true
    · exact .inr ⟨0, by simp, by simp [idxP, h], by simp [h]⟩
    · rcases idxP_first r (k + 1) with ⟨h1, h2⟩ | ⟨i, h1, h2, h3⟩
      · exact   .inl ⟨by rw [idxP, if_neg h]; exact h1, by rw [List.filter_cons_of_pos (by simp [h]), h2]⟩
      · exact .inr ⟨i + 1, by simpa using h1, by simp only [idxP, if_neg h, h2]; congr 1; omega, by
          rw [List.take_succ_cons, List.take_succ_cons, List.filter_cons_of_pos (by simp [h]), ← h3]⟩
/-! the row of an identity -/
def rowOf (L : RMap) (id : Id) : HR := (mlook L id).getD ⟨r0, gnil⟩
theorem rowOf_some {L : RMap} {id : Id} {x : HR} (h : mlook L id = some x) : rowOf L id = x := by simp [rowOf, h]
theorem GOK.zero (ν : Heap) : GOK ν gnil 0 := by
  have : gi 0 = [] := by decide
  simp only [GOK, gvL, this]
  exact Src.nil ν 1
theorem SetOK.rowG {ν : Heap} {L : RMap} {W : WMap} {own : List RR} (h : SetOK ν L W own) (id : Id) : GOK ν (rowOf L id).g (rowOf L id).r.grp := by
  cases hl : mlook L id with
  | none => simp only [rowOf, hl, Option.getD_none]; exact GOK.zero ν
  | some x => simp only [rowOf, hl, Option.getD_some]; exact (h.look hl).2.2
theorem SetOK.rowOf_eq {ν : Heap} {L : RMap} {W : WMap} {own : List RR} (h : SetOK ν L W own) {x : RR} (hx : x ∈ own) : (rowOf L x.id).r = x := by
  obtain ⟨g, hl, _⟩ := h.at hx
  rw [rowOf_some hl]
section
variable {σ : Slots} {φ : Heap} {dst : Option Tmp} {ty : TypeId} {pos : String} {aft : Array Edge} {g : Option (Nat × Bool)}
theorem rd_rowOf {x ix : Operand} {m : Nat} {es : Array MapEntry} {c : Nat} {L : RMap} {id : Id} (h : MapIs idK hrK es c L) (hx : ev σ x = some (.map (some m))) (hi : ev σ ix = some (idK id)) [hm : HM m (.map es c) φ] :
    Rd Try.prog σ φ ⟨dst, .lookup 77 x ix false, ty, pos, aft, g⟩ (.agg (rowC (rowOf L id).r (rowOf L id).g)) := by
  cases hl : mlook L id with
  | none => simp only [rowOf, hl, Option.getD_none]; exact rd_look_none (c := false) (ek := idK) (en := hrK) Try.underlying77 h zero43 hl hx hi
  | some y => simp only [rowOf, hl, Option.getD_some]; exact rd_look_some (c := false) (ek := idK) (en := hrK) Try.underlying77 h hl hx hi
end
/-! orders -/
theorem ordLt_irrefl (a : RR) : ¬ ordLt a a := fun h => h.elim (fun h => absurd h (Int.lt_irrefl _)) (fun h => idLt_irrefl _ h.2)
theorem ordLt_trans {a b c : RR} (h1 : ordLt a b) (h2 : ordLt b c) : ordLt a c := by
  rcases h1 with h1 | ⟨h1, h1'⟩ <;> rcases h2 with h2 | ⟨h2, h2'⟩
  · exact .inl (by omega)
  · exact .inl (by omega)
  · exact .inl (by omega)
  · exact .inr ⟨by omega, idLt_trans h1' h2'⟩
theorem ordLt_total {a b : RR} (h1 : ¬ ordLt a b) (h2 : ¬ ordLt b a) : a.date = b.date ∧ a.id = b.id := by
  simp only [ordLt, not_or, not_and] at h1 h2
  have e : a.date = b.date := by omega
  exact ⟨e, idLt_total (h1.2 e) (h2.2 e.symm)⟩
theorem ordLt_congr {a b c : RR} (h1 : a.date = b.date ∧ a.id = b.id) : ordLt a c ↔ ordLt b c := by simp only [ordLt, h1.1, h1.2]
theorem ltOrd (f : Id → RR) (x y : Id) : Go.Proofs.ltOf (fun x y : Id => ordF (f x) (f y)) x y = decide (ordLt (f x) (f y)) := by simp only [Go.Proofs.ltOf, ordF_lt]
theorem swoOrd (f : Id → RR) : Sort.SWO (Go.Proofs.ltOf (fun x y : Id => ordF (f x) (f y))) := ⟨fun x => by rw [ltOrd]; exact decide_eq_false (ordLt_irrefl _),
  fun x y z h1 h2 => by rw [ltOrd] at *; simp only [decide_eq_true_eq] at *; exact ordLt_trans h1 h2,
  fun x y z h1 h2 => by
    rw [ltOrd] at *; simp only [decide_eq_false_iff_not] at *
    intro h
    by_cases h3 : ordLt (f y) (f x)
    · exact h2 (ordLt_trans h3 h)
    · exact h2 ((ordLt_congr (ordLt_total h1 h3)).1 h)⟩
theorem ltId (x y : Id) : Go.Proofs.ltOf (fun x y : Id => cmpId x y) x y = decide (idLt x y) := by simp only [Go.Proofs.ltOf, cmpId_lt]
theorem swoId : Sort.SWO (Go.Proofs.ltOf (fun x y : Id => cmpId x y)) := ⟨fun x => by rw [ltId]; exact decide_eq_false (idLt_irrefl _),
  fun x y z h1 h2 => by rw [ltId] at *; simp only [decide_eq_true_eq] at *; exact idLt_trans h1 h2,
  fun x y z h1 h2 => by
    rw [ltId] at *; simp only [decide_eq_false_iff_not] at *
    intro h
    by_cases h3 : idLt y x
    · exact h2 (idLt_trans h3 h)
    · have e := idLt_total h1 h3
      rw [e] at h
      exact h2 h⟩
/-- slices.SortFunc at rows of identities -/
theorem sort_ret {base fc : Nat} {cb : Array Value} {φ : Heap} {cf : Id → Id → Int} (hO : Sort.SWO (Go.Proofs.ltOf cf)) (en : ∀ args w, (callFunc fc args).run Try.prog w = .ok (.enter fc args) w)
    (hcmp : ∀ x y W, HpOK φ W → Ret Try.prog fc ([idK x, idK y] ++ cb.toList) W [] (fun v _ => v = I (cf x y))) {v : Value} {ν : Heap} {ids : List Id} (h : OwnR base 38 32 v ν ids.length (idsL ids)) (hl : ids.length < 1048576) (w : World) (hη : HpOK (ν ++ φ) w) (hnd : ((ν ++ φ).map Prod.fst).Nodup) :
    Ret Try.prog 53 [v, .func (.func fc) #[] cb] w (ν.map Prod.fst) (fun _ w' => ∃ (ν' : Heap) (ys : List Id), OwnR base 38 32 v ν' ys.length (idsL ys) ∧ HpOK ν' w' ∧ ν'.map Prod.fst = ν.map Prod.fst ∧ ys.Perm ids ∧ ys.Pairwise (fun x y => Go.Proofs.ltOf cf y x = false)) := by
  rcases h with ⟨rfl, rfl, h0, h00⟩ | ⟨g, cap, cur, rfl, rfl, h3, h4, h5, h6, h7, h8⟩
  · have e : ids = [] := List.eq_nil_of_length_eq_zero h0
    subst e
    exact Calls.mono (Go.Proofs.AnyF.slices_SortFunc_none (P := Try.prog) (ρ := Go.Proofs.Try.sortL_ren) { Go.Proofs.Try.sortL with } none 0 _ w) fun e w' ⟨he, hw⟩ => ⟨_, he, by rw [hw]; exact Only.refl _ _, [], [], OwnR.nil _ _ _, HpOK.nil _, rfl, List.Perm.refl _, List.Pairwise.nil⟩
  · have hb : w.heap[g]? = some (.cells cur 38 (0, 0)) := hη _ _ (by simp)
    have hgφ : g ∉ φ.map Prod.fst := by
      rw [List.map_append, List.nodup_append] at hnd
      exact fun hg => hnd.2.2 g (by simp) g hg rfl
    have key := sort_callsF (ρ := Go.Proofs.Try.sortL_ren) φ cb Go.Proofs.Try.sortL 32 Try.isAgg38 Try.sizeOf38 idL idL_len idL_one cf hO fc en (fun x y W hW => by simpa using hcmp x y W hW) g cap ids cur 38 w (hη.mono (fun q hq => by simp [hq])) hgφ hb h7 (by omega)
    refine Calls.mono key fun e w' ⟨u, he, ho, cur', ys, hc1, hc2, hc3, hp, hpw⟩ => ⟨u, he, by simpa using ho, [(g, .cells cur' 38 (0, 0))], ys, ?_, ?_, rfl, hp, hpw⟩
    · exact .inr ⟨g, cap, cur', by rw [hp.length_eq], rfl, h3, by rw [hp.length_eq]; exact h4, h5, by rw [hc2]; exact h6, hc3, flat_len idL_len ys⟩
    · intro b o hm
      simp at hm
      obtain ⟨rfl, rfl⟩ := hm
      exact hc1
theorem setC_nd {p m k : Nat} {es ws : Array MapEntry} {c d : Nat} {ν : Heap} (h : ((setC p m k es c ws d ν).map Prod.fst).Nodup) : (ν.map Prod.fst).Nodup :=
  h.sublist (List.Sublist.map _ (((List.sublist_cons_self _ _).trans (List.sublist_cons_self _ _)).trans (List.sublist_cons_self _ _)))
/-! successors -/
/-- the successors of a row: those of own that are valid for it, the best one first -/
def insR (x : RR) : List RR → List RR
  | [] => [x]
  | y :: r => if ordLt y x then y :: insR x r else x :: y :: r
def sortR (l : List RR) : List RR := l.foldl (fun acc x => insR x acc) []
def succR (own : List RR) (x : RR) : List RR := sortR (own.filter fun y => decide (valB x y))
theorem insR_perm (x : RR) : ∀ l : List RR, (insR x l).Perm (x :: l)
  | [] => List.Perm.refl _
  | y :: r => by
    simp only [insR]
    split
    · exact ((insR_perm x r).cons y).trans (List.Perm.swap x y r)
    · exact List.Perm.refl _
theorem foldl_ins_perm : ∀ (l acc : List RR), (l.foldl (fun acc x => insR x acc) acc).Perm (l ++ acc)
  | [], acc => List.Perm.refl _
  | x :: r, acc => (foldl_ins_perm r (insR x acc)).trans (((insR_perm x acc).append_left r).trans List.perm_middle)
theorem sortR_perm (l : List RR) : (sortR l).Perm l := by simpa [sortR] using foldl_ins_perm l []
theorem insR_sorted {x : RR} : ∀ {l : List RR}, l.Pairwise (fun a b => ¬ ordLt b a) → (insR x l).Pairwise (fun a b => ¬ ordLt b a)
  | [], _ => by simp [insR]
  | y :: r, h => by
    simp only [insR]
    have h1 := List.pairwise_cons.1 h
    split
    · rename_i hyx
      refine List.pairwise_cons.2 ⟨fun b hb => ?_, insR_sorted h1.2⟩
      rcases List.mem_cons.1 ((insR_perm x r).mem_iff.1 hb) with rfl | hb
      · exact fun h2 => ordLt_irrefl _ (ordLt_trans h2 hyx)
      · exact h1.1 b hb
    · rename_i hyx
      refine List.pairwise_cons.2 ⟨fun b hb => ?_, h⟩
      rcases List.mem_cons.1 hb with rfl | hb
      · exact hyx
      · intro h2
        by_cases h3 : ordLt x y
        · exact h1.1 b hb (ordLt_trans h2 h3)
        · have e := ordLt_total hyx h3
          exact h1.1 b hb (by simp only [ordLt, e.1, e.2] at h2 ⊢; exact h2)
theorem foldl_ins_sorted : ∀ (l acc : List RR), acc.Pairwise (fun a b => ¬ ordLt b a) → (l.foldl (fun acc x => insR x acc) acc).Pairwise (fun a b => ¬ ordLt b a)
  | [], acc, h => h
  | x :: r, acc, h => foldl_ins_sorted r _ (insR_sorted h)
theorem sortR_sorted (l : List RR) : (sortR l).Pairwise (fun a b => ¬ ordLt b a) := foldl_ins_sorted l [] List.Pairwise.nil
theorem sortR_unique {l ys : List RR} (hn : (l.map RR.id).Nodup) (hp : ys.Perm l) (hs : ys.Pairwise (fun a b => ¬ ordLt b a)) : ys = sortR l := by
  refine List.Perm.eq_of_pairwise (le := fun x y => ¬ ordLt y x) (fun a b ha hb h1 h2 => ?_) hs (sortR_sorted l) (hp.trans (sortR_perm l).symm)
  have ha' := hp.mem_iff.1 ha
  have hb' := (sortR_perm l).mem_iff.1 hb
  exact uniq hn ha' hb' (ordLt_total h2 h1).2
theorem filter_nd {own : List RR} (hn : (own.map RR.id).Nodup) (F : RR → Bool) : ((own.filter F).map RR.id).Nodup := hn.sublist ((List.filter_sublist).map _)
theorem SetOK.succ {ν : Heap} {L : RMap} {W : WMap} {own : List RR} (h : SetOK ν L W own) {x : RR} (hx : x ∈ own) {ys : List Id} (hp : ys.Perm ((waits own x.id).filter fun y => !!decide (valB x (rowOf L y).r))) (hs : ys.Pairwise (fun a b => Go.Proofs.ltOf (fun x y : Id => ordF (rowOf L x).r (rowOf L y).r) b a = false)) : ys = (succR own x).map RR.id := by
  have hw : ((waits own x.id).filter fun y => !!decide (valB x (rowOf L y).r)) = (own.filter fun y => decide (valB x y)).map RR.id := by
    by_cases h0 : x.id = id0
    · simp only [waits, if_pos h0, List.filter_nil]
      symm
      rw [List.map_eq_nil_iff, List.filter_eq_nil_iff]
      intro y _ hv
      have hv := of_decide_eq_true hv
      exact hv.1 (hv.2.1.trans h0)
    · simp only [waits, if_neg h0, List.filter_map, List.filter_filter]
      congr 1
      refine List.filter_congr fun y hy => ?_
      simp only [Function.comp, h.rowOf_eq hy, Bool.not_not]
      by_cases hv : valB x y
      · simp [hv, hv.2.1]
      · simp [hv]
  rw [hw] at hp
  have hmem : ∀ y ∈ ys, ∃ z ∈ own, z.id = y := fun y hy => by
    obtain ⟨z, hz, rfl⟩ := List.mem_map.1 (hp.mem_iff.1 hy)
    exact ⟨z, (List.mem_filter.1 hz).1, rfl⟩
  have he : ys = (ys.map fun y => (rowOf L y).r).map RR.id := by
    rw [List.map_map]
    conv => lhs; rw [← List.map_id ys]
    refine List.map_congr_left fun y hy => ?_
    obtain ⟨z, hz, rfl⟩ := hmem y hy
    simp [Function.comp, h.rowOf_eq hz]
  rw [he]
  congr 1
  refine sortR_unique (filter_nd h.nd _) ?_ ?_
  · have := hp.map fun y => (rowOf L y).r
    rw [List.map_map] at this
    refine this.trans ?_
    rw [List.map_congr_left (g := id) fun z hz => by simp [Function.comp, h.rowOf_eq (List.mem_filter.1 hz).1], List.map_id]
  · rw [List.pairwise_map]
    exact hs.imp fun h => by rw [ltOrd] at h; exact of_decide_eq_false h
theorem take_set_at {α : Type} {l : List α} {i : Nat} {x : α} (hi : i < l.length) : (l.set i x).take (i + 1) = l.take i ++ [x] := by
  rw [take_at (x := x) (by rw [List.getElem?_set_self hi]), List.take_set_of_le (Nat.le_refl i)]
theorem at_drop {α : Type} {l m : List α} {j : Nat} {x : α} (h : l.drop j = m.drop j) (hx : m[j]? = some x) : l[j]? = some x := by
  have h1 := congrArg (fun q => q[0]?) h
  simp only [List.getElem?_drop, Nat.add_zero] at h1
  rw [h1]; exact hx
theorem ids_cur {base g n cap : Nat} {cur : Array Value} {zs : List Id} (h : OwnR base 38 32 (.slice (some ⟨g, 0, none⟩) n cap) [(g, .cells cur 38 (0, 0))] n (idsL zs)) : n ≤ cap ∧ cap ≤ maxLen ∧ base ≤ g ∧ cur.size = cap * 32 ∧ cur.toList.take (n * 32) = idsL zs ∧ ∀ i, i < n * 32 → cur[i]? = (idsL zs)[i]? := by
  rcases h with ⟨h0, _⟩ | ⟨g', cap', cur', h1, h2, h3, h4, h5, h6, h7, h8⟩
  · cases h0
  simp only [Value.slice.injEq, Option.some.injEq, Addr.mk.injEq, and_true, true_and] at h1
  obtain ⟨rfl, rfl⟩ := h1
  simp only [List.cons.injEq, Prod.mk.injEq, Obj.cells.injEq, and_true, true_and] at h2
  subst h2
  exact ⟨h4, h5, h3, h6, h7, fun i hi => by rw [← h7, List.getElem?_take, if_pos hi]; simp⟩
theorem zero38 (w : World) : (zeroValue 38).run Try.prog w = .ok (.agg (idC id0)) w := by rw [Try.zeroValue38, idC0]; rfl
theorem waits_len (own : List RR) (t : Id) : (waits own t).length ≤ own.length := by
  unfold waits
  split
  · simp
  · rw [List.length_map]; exact List.length_filter_le _ _
/-- a set's blocks say the rows own' now -/
def SetTo (m k : Nat) (ν : Heap) (own' : List RR) (w w' : World) : Prop := ∃ (es' : Array MapEntry) (c' : Nat) (ws' : Array MapEntry) (d' : Nat) (L' : RMap) (W' : WMap) (ν' : Heap),
  HpOK ((m, .map es' c') :: (k, .map ws' d') :: ν') w' ∧ (((m, Obj.map es' c') :: (k, .map ws' d') :: ν').map Prod.fst).Nodup ∧ (∀ b ∈ ν'.map Prod.fst, w.heap.size ≤ b) ∧ MapIs idK hrK es' c' L' ∧ MapIs idK wvK ws' d' W' ∧ SetOK (ν' ++ ν) L' W' own'
def addE (own : List RR) (r : RR) : Int := if dateB r.date then (if (∃ x ∈ own, x.id = r.id) then 7 else if 4096 ≤ own.length then 9 else 0) else 13
def addO (own : List RR) (r : RR) : List RR := if addE own r = 0 then own ++ [r] else own
def dropE (own : List RR) (id : Id) : Int := if (∃ x ∈ own, x.id = id) then 0 else 8
def dropO (own : List RR) (id : Id) : List RR := own.filter fun x => !decide (x.id = id)
def succI (own : List RR) (id : Id) : List Id := match own.find? (fun x => decide (x.id = id)) with
  | some x => (succR own x).map RR.id
  | none => []
theorem find_own {own : List RR} (hn : (own.map RR.id).Nodup) {x : RR} (hx : x ∈ own) : own.find? (fun y => decide (y.id = x.id)) = some x := by
  cases h : own.find? (fun y => decide (y.id = x.id)) with
  | none => have := List.find?_eq_none.1 h x hx; simp at this
  | some y =>
    have h1 := List.find?_some h
    have h2 := List.mem_of_find?_eq_some h
    rw [uniq hn h2 hx (of_decide_eq_true h1)]
theorem succI_in {own : List RR} (hn : (own.map RR.id).Nodup) {x : RR} (hx : x ∈ own) : succI own x.id = (succR own x).map RR.id := by rw [succI, find_own hn hx]
theorem succI_out {own : List RR} {id : Id} (h : ¬ ∃ x ∈ own, x.id = id) : succI own id = [] := by
  have : own.find? (fun x => decide (x.id = id)) = none := List.find?_eq_none.2 fun x hx => by simp; exact fun e => h ⟨x, hx, e⟩
  rw [succI, this]
theorem succR_len (own : List RR) (x : RR) : (succR own x).length ≤ own.length := by rw [succR, (sortR_perm _).length_eq]; exact List.length_filter_le _ _
theorem succI_len (own : List RR) (id : Id) : (succI own id).length ≤ own.length := by
  unfold succI
  split
  · rw [List.length_map]; exact succR_len _ _
  · simp
def wdB (own : List RR) (id : Id) : Bool := own.any fun x => decide (x.id = id) && own.any fun y => decide (valB x y) || decide (outB y x)
theorem wd_out {own : List RR} {id : Id} (h : ¬ ∃ x ∈ own, x.id = id) : wdB own id = false := by
  rw [wdB, List.any_eq_false]
  intro x hx
  have : ¬ x.id = id := fun e => h ⟨x, hx, e⟩
  simp [this]
theorem wd_in {own : List RR} (hn : (own.map RR.id).Nodup) {x : RR} (hx : x ∈ own) : wdB own x.id = own.any fun y => decide (valB x y) || decide (outB y x) := by
  rw [Bool.eq_iff_iff]
  simp only [wdB, List.any_eq_true, Bool.and_eq_true, decide_eq_true_eq]
  constructor
  · rintro ⟨z, hz, he, h⟩
    rw [← uniq hn hz hx he]; exact h
  · exact fun h => ⟨x, hx, rfl, h⟩
theorem succR_pos {own : List RR} {x : RR} : 0 < (succR own x).length ↔ ∃ y ∈ own, valB x y := by
  rw [succR, (sortR_perm _).length_eq, List.length_pos_iff_exists_mem]
  simp
theorem SetOK.outs {ν : Heap} {L : RMap} {W : WMap} {own : List RR} (h : SetOK ν L W own) (x : RR) : (waits own x.sup).any (fun y => decide (outB (rowOf L y).r x)) = own.any fun y => decide (outB y x) := by
  rw [Bool.eq_iff_iff]
  simp only [List.any_eq_true, decide_eq_true_eq]
  constructor
  · rintro ⟨y, hy, ho⟩
    unfold waits at hy
    split at hy
    · cases hy
    · obtain ⟨z, hz, rfl⟩ := List.mem_map.1 hy
      have hz := (List.mem_filter.1 hz).1
      rw [h.rowOf_eq hz] at ho
      exact ⟨z, hz, ho⟩
  · rintro ⟨y, hy, ho⟩
    have h0 : x.sup ≠ id0 := fun e => ho.2.1 (ho.2.2.2.1.trans e)
    refine ⟨y.id, ?_, by rw [h.rowOf_eq hy]; exact ho⟩
    rw [waits, if_neg h0]
    exact List.mem_map.2 ⟨y, List.mem_filter.2 ⟨hy, by simp [ho.2.2.2.1]⟩, rfl⟩
end Go.Proofs.Ytaagmgpfpaanlaa
