/- The laws' arguments opened: moves, arrays of bytes. No conditions. -/
import Derived.Test.YtheioljidangkaaGreatLwa
import Derived.Test.YtheioljidangkaaGreatLx
namespace Go.Proofs.YtheioljidangkaaGreat
open Go Go.RowKit Go.Sx Go.WideShapes Go.ChangeShapes Go.Deep
set_option maxRecDepth 100000
set_option linter.unusedVariables false
set_option linter.unusedSimpArgs false
section
variable {H : Type} {enc : TypeId × Value → H} {w : World} {base : Nat} {spare : Nat → Bool} {held : Bool}
theorem wf_u8 {n : Int} (h : (Lit.int .u8 n).wf = true) : ∃ b : UInt8, n = b.toNat := by
  have h' : 0 ≤ n ∧ n ≤ 255 := by simpa [Lit.wf, IntKind.min, IntKind.max, IntKind.signed, IntKind.bits] using h
  refine ⟨UInt8.ofNat n.toNat, ?_⟩
  have : n.toNat < 256 := by omega
  simp [Nat.mod_eq_of_lt this]
  omega
theorem open_u8s {n : Nat} {t : TypeId} (ht : Tryz.prog.underlying t = some (.array n 5)) (hc : Tryz.prog.cellsOf t = n) {fuel : Nat} {cs : List Value} {x : DataW H × List MemPlace} (h : DataW.trod enc Tryz.prog w base spare held fuel t cs = some x) : ∃ id : Vector UInt8 n, cs = (idC id).toList := by
  obtain ⟨xs, m, _, _, hlen, hxl, hel⟩ := DataW.trod_array ht h
  rw [hc] at hlen
  have hc5 : Tryz.prog.cellsOf 5 = 1 := by kernel_rfl
  have key : ∀ i, i < n → ∃ b : UInt8, cs[i]? = some (.int .u8 b.toNat) := fun i hi => by
    have h1 := hel i hi
    rw [hc5, Nat.mul_one, List.getElem?_eq_getElem (by omega)] at h1
    obtain ⟨m2, hn, _, hw⟩ := DataW.trod_int Tryz.underlying5 h1
    obtain ⟨b, hb⟩ := wf_u8 hw
    rw [List.drop_eq_getElem_cons (by omega)] at hn
    simp only [List.take_succ_cons, List.take_zero, List.cons.injEq, and_true] at hn
    exact ⟨b, by rw [List.getElem?_eq_getElem (by omega), hn, hb]⟩
  let f : Fin n → UInt8 := fun i => (key i.1 i.2).choose
  refine ⟨Vector.ofFn f, ?_⟩
  apply List.ext_getElem?
  intro i
  by_cases hi : i < n
  · refine (key i hi).choose_spec.trans ?_
    refine Eq.trans ?_ ((Array.getElem?_toList ..).trans (idC_at _ i hi)).symm
    simp [f]
  · rw [List.getElem?_eq_none (by omega), List.getElem?_eq_none (by simp [idC_size]; omega)]
theorem open_arrV {n : Nat} {t : TypeId} {v : Value} {d : DataW H} {ps : List MemPlace} (ht : Tryz.prog.underlying t = some (.array n 5)) (hc : Tryz.prog.cellsOf t = n) {r : Reach} {b0 : Nat} (hv : Value.okWide Tryz.prog w r b0 t v) (h : DataW.Trod enc Tryz.prog w 0 spare held t v d ps) : ∃ id : Vector UInt8 n, v = idK id := by
  obtain ⟨cs, rfl⟩ : ∃ cs, v = .agg cs := by
    simp only [Value.okWide, ht] at hv
    obtain ⟨cs, h1, _⟩ := hv
    exact ⟨cs, h1⟩
  obtain ⟨fuel, hf⟩ := h
  obtain ⟨id, hid⟩ := open_u8s ht hc hf
  refine ⟨id, ?_⟩
  simp only [Value.cells] at hid
  rw [show cs = idC id from Array.ext' hid]
theorem open_mvL {fuel : Nat} {cs : List Value} {x : DataW H × List MemPlace} (h : DataW.trod enc Tryz.prog w base spare held fuel 51 cs = some x) : ∃ m : MV, cs = mvL m := by
  obtain ⟨fs, ht, hfs⟩ : ∃ fs : Array Field, Tryz.prog.underlying 51 = some (.struct fs) ∧ fs.map (fun f => (f.type, f.offset)) = #[(5, 0), (5, 1), (5, 2), (5, 3), (5, 4), (5, 5), (5, 6)] := ⟨_, Tryz.underlying51, by simp⟩
  have hc : Tryz.prog.cellsOf 51 = 7 := by kernel_rfl
  obtain ⟨xs, n, _, _, hlen, hxl, hel⟩ := DataW.trod_struct ht h
  rw [hc] at hlen
  have hsz : fs.size = 7 := by have := congrArg Array.size hfs; simpa using this
  have c5 : Tryz.prog.cellsOf 5 = 1 := by kernel_rfl
  have key : ∀ i, i < 7 → ∃ b : UInt8, cs[i]? = some (u8v b) := fun i hi => by
    have h1 : (fs.map (fun f => (f.type, f.offset)))[i]? = some (5, i) := by
      rw [hfs]
      have : i = 0 ∨ i = 1 ∨ i = 2 ∨ i = 3 ∨ i = 4 ∨ i = 5 ∨ i = 6 := by omega
      rcases this with rfl | rfl | rfl | rfl | rfl | rfl | rfl <;> rfl
    rw [Array.getElem?_map] at h1
    have hi' : i < fs.size := by omega
    rw [Array.getElem?_eq_getElem hi'] at h1
    simp only [Option.map_some, Option.some.injEq, Prod.mk.injEq] at h1
    have h3 := hel i fs[i] (Array.getElem?_eq_getElem hi')
    rw [h1.1, h1.2, List.getElem?_eq_getElem (by omega), c5] at h3
    obtain ⟨m2, hn, _, hw⟩ := DataW.trod_int Tryz.underlying5 h3
    obtain ⟨b, hb⟩ := wf_u8 hw
    rw [List.drop_eq_getElem_cons (by omega)] at hn
    simp only [List.take_succ_cons, List.take_zero, List.cons.injEq, and_true] at hn
    exact ⟨b, by rw [List.getElem?_eq_getElem (by omega), hn, hb]⟩
  obtain ⟨b0, h0⟩ := key 0 (by omega)
  obtain ⟨b1, h1⟩ := key 1 (by omega)
  obtain ⟨b2, h2⟩ := key 2 (by omega)
  obtain ⟨b3, h3⟩ := key 3 (by omega)
  obtain ⟨b4, h4⟩ := key 4 (by omega)
  obtain ⟨b5, h5⟩ := key 5 (by omega)
  obtain ⟨b6, h6⟩ := key 6 (by omega)
  refine ⟨⟨b0, b1, b2, b3, b4, b5, b6⟩, ?_⟩
  have e : mvL ⟨b0, b1, b2, b3, b4, b5, b6⟩ = [u8v b0, u8v b1, u8v b2, u8v b3, u8v b4, u8v b5, u8v b6] := by show (mvC _).toList = _; simp only [mvC, Array.toList_append]; rfl
  rw [e]
  apply List.ext_getElem?
  intro i
  by_cases hi : i < 7
  · have : i = 0 ∨ i = 1 ∨ i = 2 ∨ i = 3 ∨ i = 4 ∨ i = 5 ∨ i = 6 := by omega
    rcases this with rfl | rfl | rfl | rfl | rfl | rfl | rfl
    · exact h0
    · exact h1
    · exact h2
    · exact h3
    · exact h4
    · exact h5
    · exact h6
  · rw [List.getElem?_eq_none (by omega), List.getElem?_eq_none (by show 7 ≤ i; omega)]
theorem open_mvV {v : Value} {d : DataW H} {ps : List MemPlace} {r : Reach} {b0 : Nat} (hv : Value.okWide Tryz.prog w r b0 51 v) (h : DataW.Trod enc Tryz.prog w 0 spare held 51 v d ps) : ∃ x : MV, v = mvK x := by
  obtain ⟨cs, rfl, _⟩ := okWide_struct Tryz.underlying51 hv
  obtain ⟨fuel, hf⟩ := h
  obtain ⟨x, hx⟩ := open_mvL hf
  refine ⟨x, ?_⟩
  simp only [Value.cells] at hx
  rw [show cs = mvC x from Array.ext' hx]
theorem cell_spot {a : Addr} {v : Value} (h : w.cell? a = some v) : ∃ b o cs E fr, a = ⟨b, o, none⟩ ∧ w.heap[b]? = some (.cells cs E fr) := by
  obtain ⟨b, o, s⟩ := a
  simp only [World.cell?] at h
  split at h
  · rename_i cs E fr hb
    cases s with
    | none => exact ⟨b, o, cs, E, fr, rfl, hb⟩
    | some s => simp at h
  · cases h
/-- a slice whose elements are known -/
theorem open_rows {α : Type} {L : α → List Value} {k : Nat} (hk : ∀ x, (L x).length = k) (hk0 : 0 < k) (z : α) {T E : TypeId} (hT : Tryz.prog.underlying T = some (.slice E)) (cE : Tryz.prog.cellsOf E = k)
    (hopen : ∀ {fuel : Nat} {cs : List Value} {x : DataW H × List MemPlace}, DataW.trod enc Tryz.prog w 0 spare held fuel E cs = some x → ∃ m : α, cs = L m)
    {v : Value} {d : DataW H} {ps : List MemPlace} {r : Reach} {b0 : Nat} (hv : Value.okWide Tryz.prog w r b0 T v) (h : DataW.Trod enc Tryz.prog w 0 spare held T v d ps) :
    ∃ (ops : List α) (νl : Heap), Src νl v k ops.length (ops.flatMap L) ∧ HpOK νl w ∧ (νl.map Prod.fst).Nodup := by
  obtain ⟨A, len, cap, rfl⟩ := okWide_slice hT hv
  obtain ⟨fuel, hf⟩ := h
  rcases open_slice hT hf with ⟨h1, _⟩ | ⟨a, len', cap', m, n, D, Pl, hcs, _, hle, hm, hmm, _, hel⟩
  · simp only [Value.cells, List.cons.injEq, and_true] at h1
    cases h1
    exact ⟨[], [], ⟨by simp, .inl ⟨rfl, rfl⟩⟩, HpOK.nil w, by simp⟩
  · simp only [Value.cells, List.cons.injEq, Value.slice.injEq, and_true] at hcs
    obtain ⟨rfl, rfl, rfl⟩ := hcs
    rw [cE] at hel
    have hlm : len ≤ m := by rw [hmm]; split <;> omega
    have key : ∀ i, i < len → ∃ o : α, ∀ j, j < k → w.cell? ((a.add (i * k)).add j) = (L o)[j]? := fun i hi => by
      obtain ⟨cs', h1, h2⟩ := hel i (by omega)
      obtain ⟨o, rfl⟩ := hopen h2
      exact ⟨o, fun j hj => (World.cells?_some h1).2.2 j (by omega)⟩
    rcases Nat.eq_zero_or_pos len with rfl | hpos
    · exact ⟨[], [], ⟨by simp, .inr ⟨a, cap, rfl, .inl rfl⟩⟩, HpOK.nil w, by simp⟩
    · let f : Nat → α := fun i => if h : i < len then (key i h).choose else z
      have hfi : ∀ i, i < len → ∀ j, j < k → w.cell? ((a.add (i * k)).add j) = (L (f i))[j]? := fun i hi j hj => by
        have := (key i hi).choose_spec j hj
        simp only [f, hi, dif_pos]
        exact this
      have h00 := hfi 0 hpos 0 hk0
      have hadd0 : ∀ x : Addr, x.add 0 = x := fun x => by unfold Addr.add; split <;> simp_all
      rw [Nat.zero_mul, hadd0, hadd0, List.getElem?_eq_getElem (by rw [hk]; exact hk0)] at h00
      obtain ⟨b, o, cs, E', fr, rfl, hb⟩ := cell_spot h00
      have hlen : ((List.range len).map f).length = len := by simp
      refine ⟨(List.range len).map f, [(b, .cells cs E' fr)], ?_, fun c x hx => by simp at hx; obtain ⟨rfl, rfl⟩ := hx; exact hb, by simp⟩
      have hflen := flat_len hk ((List.range len).map f)
      rw [hlen] at hflen ⊢
      refine Src.ofBlock (cs := cs) (E := E') (fr := fr) hflen (by simp) (fun t u ht => ?_)
      have htl : t < len * k := by rw [← hflen]; exact (List.getElem?_eq_some_iff.1 ht).1
      have h1 : t / k < len := (Nat.div_lt_iff_lt_mul hk0).2 htl
      have h2 : t / k * k + t % k = t := by rw [Nat.mul_comm]; exact Nat.div_add_mod t k
      have h3 := flat_at hk ((List.range len).map f) (t / k) (t % k) (f (t / k)) (by simp [h1]) (Nat.mod_lt _ hk0)
      rw [h2, ht] at h3
      have h4 := hfi (t / k) h1 (t % k) (Nat.mod_lt _ hk0)
      rw [← h3, Go.Sx.add_plain, Go.Sx.add_plain, Nat.add_assoc, h2] at h4
      simpa [World.cell?, hb] using h4
theorem open_mvs {v : Value} {d : DataW H} {ps : List MemPlace} {r : Reach} {b0 : Nat} (hv : Value.okWide Tryz.prog w r b0 22 v) (h : DataW.Trod enc Tryz.prog w 0 spare held 22 v d ps) :
    ∃ (ops : List MV) (νl : Heap), Src νl v 7 ops.length (ops.flatMap mvL) ∧ HpOK νl w ∧ (νl.map Prod.fst).Nodup :=
  open_rows mvL_len (by omega) mv0 Tryz.underlying22 (by kernel_rfl) open_mvL hv h
theorem open_u8L {fuel : Nat} {cs : List Value} {x : DataW H × List MemPlace} (h : DataW.trod enc Tryz.prog w 0 spare held fuel 5 cs = some x) : ∃ b : UInt8, cs = [u8v b] := by
  obtain ⟨n', hn', _, hw'⟩ := DataW.trod_int Tryz.underlying5 h
  obtain ⟨b, rfl⟩ := wf_u8 hw'
  exact ⟨b, hn'⟩
theorem open_bytes {v : Value} {d : DataW H} {ps : List MemPlace} {r : Reach} {b0 : Nat} (hv : Value.okWide Tryz.prog w r b0 87 v) (h : DataW.Trod enc Tryz.prog w 0 spare held 87 v d ps) :
    ∃ (bs : List UInt8) (νl : Heap), Src νl v 1 bs.length (bs.flatMap fun b => [u8v b]) ∧ HpOK νl w ∧ (νl.map Prod.fst).Nodup :=
  open_rows (L := fun b : UInt8 => [u8v b]) (k := 1) (fun _ => rfl) (by omega) 0 Tryz.underlying87 (by kernel_rfl) open_u8L hv h
end
/-- the facts of two arguments in one list -/
theorem join_facts {ν0 ν1 : Heap} {w : World} (h0 : HpOK ν0 w) (h1 : HpOK ν1 w) (n0 : (ν0.map Prod.fst).Nodup) (n1 : (ν1.map Prod.fst).Nodup) : ∃ μ : Heap, HpOK μ w ∧ (μ.map Prod.fst).Nodup ∧ (∀ q ∈ ν0, q ∈ μ) ∧ ∀ q ∈ ν1, q ∈ μ := by
  classical
  refine ⟨ν0 ++ ν1.filter (fun q => decide (q.1 ∉ ν0.map Prod.fst)), h0.append (h1.mono fun q hq => (List.mem_filter.1 hq).1), ?_, fun q hq => List.mem_append_left _ hq, fun q hq => ?_⟩
  · rw [List.map_append, List.nodup_append]
    refine ⟨n0, n1.sublist ((List.filter_sublist).map _), fun a ha b hb => ?_⟩
    obtain ⟨q, hq, rfl⟩ := List.mem_map.1 hb
    have := (List.mem_filter.1 hq).2
    simp only [decide_eq_true_eq] at this
    exact fun e => this (e ▸ ha)
  · by_cases hm : q.1 ∈ ν0.map Prod.fst
    · obtain ⟨q', hq', he⟩ := List.mem_map.1 hm
      have e1 := h0 q'.1 q'.2 hq'
      have e2 := h1 q.1 q.2 hq
      rw [he, e2] at e1
      have : q' = q := Prod.ext he (by simpa using e1.symm)
      subst this
      exact List.mem_append_left _ hq'
    · exact List.mem_append_right _ (List.mem_filter.2 ⟨hq, by simpa using hm⟩)
theorem idA {n : Nat} (x : Vector UInt8 n) (i : Nat) (hi : i < n) : GetAt (idC x) i (u8v x[i]) := ⟨idC_at x i hi⟩
end Go.Proofs.YtheioljidangkaaGreat
