/- slices.SortFunc over elements of k cells, in the words of this logic. No conditions: a general lemma, over the kit's contract. -/
import Derived.Test.YtaagmgpfpaanlaaAx
import Derived.Shelf.SlSortCmp.NoneTotal
namespace Go.Sx
open Go Go.RowKit Go.Shelf Go.Sort
variable {P : Program} {ρ : Ren} {α : Type} [Inhabited α]
theorem grow_of_only {w w' : World} (h : Only [] w w') : ∃ q os, w' = grow (w.drewN q) os := by
  refine ⟨w'.drawn - w.drawn, w'.heap.extract w.heap.size w'.heap.size, ?_⟩
  have hd : w.drawn + (w'.drawn - w.drawn) = w'.drawn := by have := h.drawn; omega
  have hh : w.heap ++ w'.heap.extract w.heap.size w'.heap.size = w'.heap := by
    apply Array.ext_getElem?
    intro i
    rw [Array.getElem?_append]
    split
    · rename_i hi
      exact (h.blk i hi (by simp)).symm
    · rename_i hi
      rw [Array.getElem?_extract]
      split
      · congr 1; omega
      · rw [Array.getElem?_eq_none]; have := h.size; omega
  obtain ⟨h1, h2, h3, h4, h5⟩ := w'
  simp only [grow, World.drewN, World.mk.injEq]
  exact ⟨hh.symm, h.tape, hd.symm, h.os, h.output⟩
theorem getD_some {l : List Value} {i : Nat} {v : Value} (h : l[i]? = some v) : l[i]! = v := by simp [h]
theorem flatK_at {enc : α → List Value} {k : Nat} (hk : ∀ x, (enc x).length = k) (xs : List α) (t : Nat) (ht : t < xs.length * k) : (xs.flatMap enc)[t]? = some (flatK enc k xs.toArray)[t]! := by
  have hk0 : 0 < k := by rcases Nat.eq_zero_or_pos k with rfl | h; · simp at ht
                         · exact h
  rw [get_flatK enc k xs.toArray t (by simpa using ht)]
  have hj : t / k < xs.length := (Nat.div_lt_iff_lt_mul hk0).2 ht
  have hi : t % k < k := Nat.mod_lt _ hk0
  have h1 := flat_at hk xs (t / k) (t % k) xs[t / k] (by simp [hj]) hi
  have h2 : t / k * k + t % k = t := by rw [Nat.mul_comm]; exact Nat.div_add_mod t k
  rw [h2] at h1
  rw [h1]
  have h3 : xs.toArray[t / k]! = xs[t / k] := by simp [hj]
  rw [h3]
  have h4 : t % k < (enc xs[t / k]).length := by rw [hk]; exact hi
  simp [h4]
theorem flatK_list {enc : α → List Value} {k : Nat} (hk : ∀ x, (enc x).length = k) (xs : List α) : (flatK enc k xs.toArray).toList = xs.flatMap enc := by
  apply List.ext_getElem?
  intro t
  by_cases ht : t < xs.length * k
  · rw [flatK_at hk xs t ht]
    have h : t < (flatK enc k xs.toArray).toList.length := by simpa using ht
    rw [List.getElem?_eq_getElem h]
    simp only [Option.some.injEq]
    rw [getElem!_pos _ _ (by simpa using ht)]
    simp
  · rw [List.getElem?_eq_none (by simpa using ht), List.getElem?_eq_none (by rw [flat_len hk]; omega)]
theorem holdsK_of {enc : α → List Value} {k : Nat} (hk : ∀ x, (enc x).length = k) {w : World} {b : Nat} {cur : Array Value} {E : TypeId} {xs : List α} (hb : w.heap[b]? = some (.cells cur E (0, 0))) (hcur : cur.toList.take (xs.length * k) = xs.flatMap enc) : HoldsK enc k w b 0 xs.toArray := fun t ht => by
  have ht' : t < xs.length * k := by simpa using ht
  have h1 := flatK_at hk xs t ht'
  rw [← hcur, List.getElem?_take, if_pos ht'] at h1
  refine ⟨?_, by simp [World.frozen?, hb]⟩
  simp only [World.cell?, hb, Nat.zero_add, id]
  simpa using h1
theorem sort_calls (L : Go.Proofs.SlLaysF0.n6 P ρ) (k : Nat) (aE : ∀ w, (isAgg (ρ.t 24)).run P w = .ok true w) (zE : ∀ w, (Go.sizeOf (ρ.t 24)).run P w = .ok k w) (enc : α → List Value) (hk : ∀ x, (enc x).length = k) (h1 : ∀ x, ∀ v ∈ enc x, v.oneCell' = true)
    (cf : α → α → Int) (hO : SWO (Go.Proofs.ltOf cf)) (g : Nat) (eg : ∀ args w, (callFunc g args).run P w = .ok (.enter g args) w)
    (hcmp : ∀ x y W, Ret P g [.agg (enc x).toArray, .agg (enc y).toArray] W [] (fun v _ => v = .int .i64 (cf x y))) (b cap : Nat) (xs : List α) (cur : Array Value) (E : TypeId) (w : World) (hb : w.heap[b]? = some (.cells cur E (0, 0))) (hcur : cur.toList.take (xs.length * k) = xs.flatMap enc)
    (hsz : xs.length < 4611686018427387904) :
    Ret P (ρ.f 6) [.slice (some ⟨b, 0, none⟩) xs.length cap, .func (.func g) #[] #[]] w [b] (fun _ w' => ∃ (cur' : Array Value) (ys : List α), w'.heap[b]? = some (.cells cur' E (0, 0)) ∧ cur'.size = cur.size ∧ cur'.toList.take (ys.length * k) = ys.flatMap enc ∧ ys.Perm xs ∧ ys.Pairwise (fun x y => Go.Proofs.ltOf cf y x = false)) := by
  have hblk : b < w.heap.size := (Array.getElem?_eq_some_iff.1 hb).1
  have hS := Go.Proofs.AnyQ.slices_SortFunc L k aE zE enc hk h1 cf hO g #[] b 0 cap xs.toArray w eg (fun m os dk _ x y => by
    refine Calls.mono (hcmp x y _) fun e w' ⟨v, he, ho, hv⟩ => ?_
    subst hv
    exact ⟨he, grow_of_only ho⟩) (holdsK_of hk hb hcur) hblk (by simpa using hsz)
  refine Calls.mono hS fun e w' ⟨he, d', n, os, hpm, hso, hw⟩ => ⟨_, he, ?_⟩
  obtain ⟨ys, rfl⟩ : ∃ ys : List α, d' = ys.toArray := ⟨d'.toList, by simp⟩
  obtain ⟨hps, _, hpp⟩ := hpm
  have e1 : ys.toArray.extract 0 xs.toArray.size = ys.toArray := by rw [← hps]; exact Array.extract_size
  rw [e1, Array.extract_size] at hpp
  have hperm : ys.Perm xs := hpp
  have hlen : ys.length = xs.length := hperm.length_eq
  have hpw : ys.Pairwise (fun x y => Go.Proofs.ltOf cf y x = false) := by
    rw [List.pairwise_iff_getElem]
    intro i j hi hj hij
    have := hso i j (Nat.zero_le _) hij (by simp; omega)
    rw [getElem!_pos ys.toArray j (by simpa using hj), getElem!_pos ys.toArray i (by simpa using hi)] at this
    simpa using this
  have hheap : w'.heap = (w.heap.modify b (onCells (putCells id 0 (flatK enc k ys.toArray)))) ++ os := by rw [hw]; rfl
  have hat : ∀ c, c < w.heap.size → w'.heap[c]? = (w.heap.modify b (onCells (putCells id 0 (flatK enc k ys.toArray))))[c]? := fun c hc => by
    rw [hheap, Array.getElem?_append, if_pos (by simpa using hc)]
  refine ⟨⟨by rw [hw]; rfl, by rw [hw]; rfl, by rw [hw]; rfl, by rw [hheap]; simp, fun c hc hn => ?_, by rw [hw]; exact Nat.le_add_right _ _⟩, putCells id 0 (flatK enc k ys.toArray) cur, ys, ?_, by simp [putCells], ?_, hperm, hpw⟩
  · rw [hat c hc, Array.getElem?_modify, if_neg (fun e => hn (by simp [e]))]
  · rw [hat b hblk, Array.getElem?_modify, if_pos rfl, hb]; rfl
  · have hcs : ys.length * k ≤ cur.size := by
      have := congrArg List.length hcur
      rw [List.length_take, flat_len hk] at this
      rw [hlen]
      simp at this
      omega
    rw [← flatK_list hk ys]
    apply List.ext_getElem?
    intro t
    rw [List.getElem?_take]
    by_cases ht : t < ys.length * k
    · have ht1 : t < cur.size := by omega
      rw [if_pos ht]
      have hF : t < (flatK enc k ys.toArray).size := by simpa using ht
      simp only [putCells, Array.getElem?_toList, Array.getElem?_mapIdx]
      rw [Array.getElem?_eq_getElem ht1, Array.getElem?_eq_getElem hF]
      simp [ht]
    · rw [if_neg ht, List.getElem?_eq_none (by simpa using ht)]
theorem sort_callsF (φ : Heap) (cb : Array Value) (L : Go.Proofs.SlLaysF0.n6 P ρ) (k : Nat) (aE : ∀ w, (isAgg (ρ.t 24)).run P w = .ok true w) (zE : ∀ w, (Go.sizeOf (ρ.t 24)).run P w = .ok k w) (enc : α → List Value) (hk : ∀ x, (enc x).length = k) (h1 : ∀ x, ∀ v ∈ enc x, v.oneCell' = true)
    (cf : α → α → Int) (hO : SWO (Go.Proofs.ltOf cf)) (g : Nat) (eg : ∀ args w, (callFunc g args).run P w = .ok (.enter g args) w)
    (hcmp : ∀ x y W, HpOK φ W → Ret P g ([.agg (enc x).toArray, .agg (enc y).toArray] ++ cb.toList) W [] (fun v _ => v = .int .i64 (cf x y))) (b cap : Nat) (xs : List α) (cur : Array Value) (E : TypeId) (w : World) (hφ : HpOK φ w) (hbφ : b ∉ φ.map Prod.fst) (hb : w.heap[b]? = some (.cells cur E (0, 0))) (hcur : cur.toList.take (xs.length * k) = xs.flatMap enc)
    (hsz : xs.length < 4611686018427387904) :
    Ret P (ρ.f 6) [.slice (some ⟨b, 0, none⟩) xs.length cap, .func (.func g) #[] cb] w [b] (fun _ w' => ∃ (cur' : Array Value) (ys : List α), w'.heap[b]? = some (.cells cur' E (0, 0)) ∧ cur'.size = cur.size ∧ cur'.toList.take (ys.length * k) = ys.flatMap enc ∧ ys.Perm xs ∧ ys.Pairwise (fun x y => Go.Proofs.ltOf cf y x = false)) := by
  have hblk : b < w.heap.size := (Array.getElem?_eq_some_iff.1 hb).1
  have hS := Go.Proofs.AnyQ.slices_SortFunc L k aE zE enc hk h1 cf hO g cb b 0 cap xs.toArray w eg (fun m os dk _ x y => by
    have hφ2 : HpOK φ (Go.Proofs.sortWorldK enc k w b 0 m dk os) := fun c o hc => by
      have hcl := hφ.lt hc
      have hcb : c ≠ b := fun e => hbφ (by subst e; exact List.mem_map.2 ⟨_, hc, rfl⟩)
      have hh : (Go.Proofs.sortWorldK enc k w b 0 m dk os).heap = (w.heap.modify b (onCells (putCells id 0 (flatK enc k dk)))) ++ os := rfl
      rw [hh, Array.getElem?_append, if_pos (by simpa using hcl), Array.getElem?_modify, if_neg (fun e => hcb e.symm)]
      exact hφ c o hc
    have hca := hcmp x y _ hφ2
    unfold Ret at hca
    have harr : (([Value.agg (enc x).toArray, Value.agg (enc y).toArray] ++ cb.toList : List Value)).toArray = #[Value.agg (enc x).toArray, Value.agg (enc y).toArray] ++ cb := by apply Array.ext'; simp
    rw [harr] at hca
    refine Calls.mono hca fun e w' ⟨v, he, ho, hv⟩ => ?_
    subst hv
    exact ⟨he, grow_of_only ho⟩) (holdsK_of hk hb hcur) hblk (by simpa using hsz)
  refine Calls.mono hS fun e w' ⟨he, d', n, os, hpm, hso, hw⟩ => ⟨_, he, ?_⟩
  obtain ⟨ys, rfl⟩ : ∃ ys : List α, d' = ys.toArray := ⟨d'.toList, by simp⟩
  obtain ⟨hps, _, hpp⟩ := hpm
  have e1 : ys.toArray.extract 0 xs.toArray.size = ys.toArray := by rw [← hps]; exact Array.extract_size
  rw [e1, Array.extract_size] at hpp
  have hperm : ys.Perm xs := hpp
  have hlen : ys.length = xs.length := hperm.length_eq
  have hpw : ys.Pairwise (fun x y => Go.Proofs.ltOf cf y x = false) := by
    rw [List.pairwise_iff_getElem]
    intro i j hi hj hij
    have := hso i j (Nat.zero_le _) hij (by simp; omega)
    rw [getElem!_pos ys.toArray j (by simpa using hj), getElem!_pos ys.toArray i (by simpa using hi)] at this
    simpa using this
  have hheap : w'.heap = (w.heap.modify b (onCells (putCells id 0 (flatK enc k ys.toArray)))) ++ os := by rw [hw]; rfl
  have hat : ∀ c, c < w.heap.size → w'.heap[c]? = (w.heap.modify b (onCells (putCells id 0 (flatK enc k ys.toArray))))[c]? := fun c hc => by
    rw [hheap, Array.getElem?_append, if_pos (by simpa using hc)]
  refine ⟨⟨by rw [hw]; rfl, by rw [hw]; rfl, by rw [hw]; rfl, by rw [hheap]; simp, fun c hc hn => ?_, by rw [hw]; exact Nat.le_add_right _ _⟩, putCells id 0 (flatK enc k ys.toArray) cur, ys, ?_, by simp [putCells], ?_, hperm, hpw⟩
  · rw [hat c hc, Array.getElem?_modify, if_neg (fun e => hn (by simp [e]))]
  · rw [hat b hblk, Array.getElem?_modify, if_pos rfl, hb]; rfl
  · have hcs : ys.length * k ≤ cur.size := by
      have := congrArg List.length hcur
      rw [List.length_take, flat_len hk] at this
      rw [hlen]
      simp at this
      omega
    rw [← flatK_list hk ys]
    apply List.ext_getElem?
    intro t
    rw [List.getElem?_take]
    by_cases ht : t < ys.length * k
    · have ht1 : t < cur.size := by omega
      rw [if_pos ht]
      have hF : t < (flatK enc k ys.toArray).size := by simpa using ht
      simp only [putCells, Array.getElem?_toList, Array.getElem?_mapIdx]
      rw [Array.getElem?_eq_getElem ht1, Array.getElem?_eq_getElem hF]
      simp [ht]
    · rw [if_neg ht, List.getElem?_eq_none (by simpa using ht)]
end Go.Sx
