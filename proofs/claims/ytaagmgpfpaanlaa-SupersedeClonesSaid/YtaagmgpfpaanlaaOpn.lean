/- The laws' arguments opened: identities, entries, operations. No conditions. -/
import Derived.Test.YtaagmgpfpaanlaaRef
import Derived.Test.YtaagmgpfpaanlaaLx
namespace Go.Proofs.Ytaagmgpfpaanlaa
open Go Go.RowKit Go.Sx Go.WideShapes Go.ChangeShapes Go.Deep
set_option maxRecDepth 100000
/-- an operation of the law -/
structure SOp where
  drop : Bool
  x : RR
abbrev opL (o : SOp) : List Value := .bool o.drop :: rrL o.x
theorem opL_len (o : SOp) : (opL o).length = 83 := by simp [rrC_size]
section
variable {H : Type} {enc : TypeId × Value → H} {w : World} {base : Nat} {spare : Nat → Bool} {held : Bool}
theorem wf_u8 {n : Int} (h : (Lit.int .u8 n).wf = true) : ∃ b : UInt8, n = b.toNat := by
  have h' : 0 ≤ n ∧ n ≤ 255 := by simpa [Lit.wf, IntKind.min, IntKind.max, IntKind.signed, IntKind.bits] using h
  refine ⟨UInt8.ofNat n.toNat, ?_⟩
  have : n.toNat < 256 := by omega
  simp [Nat.mod_eq_of_lt this]
  omega
theorem open_u8s {n : Nat} {t : TypeId} (ht : Try.prog.underlying t = some (.array n 5)) (hc : Try.prog.cellsOf t = n) {fuel : Nat} {cs : List Value} {x : DataW H × List MemPlace} (h : DataW.trod enc Try.prog w base spare held fuel t cs = some x) : ∃ id : Vector UInt8 n, cs = (idC id).toList := by
  obtain ⟨xs, m, _, _, hlen, hxl, hel⟩ := DataW.trod_array ht h
  rw [hc] at hlen
  have hc5 : Try.prog.cellsOf 5 = 1 := by kernel_rfl
  have key : ∀ i, i < n → ∃ b : UInt8, cs[i]? = some (.int .u8 b.toNat) := fun i hi => by
    have h1 := hel i hi
    rw [hc5, Nat.mul_one, List.getElem?_eq_getElem (by omega)] at h1
    obtain ⟨m2, hn, _, hw⟩ := DataW.trod_int Try.underlying5 h1
    obtain ⟨b, hb⟩ := wf_u8 hw
    rw [List.drop_eq_getElem_cons (by omega)] at hn
    simp only [List.take_succ_cons, List.take_zero, List.cons.injEq, and_true] at hn
    exact ⟨b, by rw [List.getElem?_eq_getElem (by omega), hn, hb]⟩
  let f : Fin n → UInt8 := fun i => (key i.1 i.2).choose
  refine ⟨Vector.ofFn f, ?_⟩
  apply List.ext_getElem?
  intro i
  by_cases hi : i < n
  · refine (key i hi).choose_spec.trans ?_
    refine Eq.trans ?_ ((Array.getElem?_toList ..).trans (idC_at _ i hi)).symm
    simp [u8v, f]
  · rw [List.getElem?_eq_none (by omega), List.getElem?_eq_none (by simp [idC_size]; omega)]
theorem open_rrL {fuel : Nat} {cs : List Value} {x : DataW H × List MemPlace} (h : DataW.trod enc Try.prog w base spare held fuel 46 cs = some x) : ∃ r : RR, cs = rrL r := by
  obtain ⟨fs, ht, hfs⟩ : ∃ fs : Array Field, Try.prog.underlying 46 = some (.struct fs) ∧ fs.map (fun f => (f.type, f.offset)) = #[(37, 0), (39, 32), (3, 48), (37, 49), (5, 81)] := ⟨_, Try.underlying46, by simp⟩
  have hc : Try.prog.cellsOf 46 = 82 := by kernel_rfl
  obtain ⟨xs, n, _, _, hlen, hxl, hel⟩ := DataW.trod_struct ht h
  rw [hc] at hlen
  have hsz : fs.size = 5 := by have := congrArg Array.size hfs; simpa using this
  have hf : ∀ i, i < 5 → ∃ F, fs[i]? = some F ∧ (F.type, F.offset) = (#[(37, 0), (39, 32), (3, 48), (37, 49), (5, 81)] : Array (TypeId × Nat))[i]! := fun i hi => by
    have h1 : (fs.map (fun f => (f.type, f.offset)))[i]? = (#[(37, 0), (39, 32), (3, 48), (37, 49), (5, 81)] : Array (TypeId × Nat))[i]? := by rw [hfs]
    rw [Array.getElem?_map] at h1
    have hi' : i < fs.size := by omega
    rw [Array.getElem?_eq_getElem hi'] at h1 ⊢
    refine ⟨_, rfl, ?_⟩
    rw [Array.getElem?_eq_getElem (by simpa using hi)] at h1
    simp only [Option.map_some, Option.some.injEq] at h1
    rw [h1, getElem!_pos _ i (by simpa using hi)]
  have one : ∀ i T o, i < 5 → (#[(37, 0), (39, 32), (3, 48), (37, 49), (5, 81)] : Array (TypeId × Nat))[i]! = (T, o) → ∃ y, DataW.trod enc Try.prog w base spare held n T ((cs.drop o).take (Try.prog.cellsOf T)) = some y := fun i T o hi hT => by
    obtain ⟨F, h1, h2⟩ := hf i hi
    rw [hT] at h2
    simp only [Prod.mk.injEq] at h2
    have h3 := hel i F h1
    rw [h2.1, h2.2, List.getElem?_eq_getElem (by omega)] at h3
    exact ⟨_, h3⟩
  have c37 : Try.prog.cellsOf 37 = 32 := by kernel_rfl
  have c39 : Try.prog.cellsOf 39 = 16 := by kernel_rfl
  have c3 : Try.prog.cellsOf 3 = 1 := by kernel_rfl
  have c5 : Try.prog.cellsOf 5 = 1 := by kernel_rfl
  obtain ⟨y0, h0⟩ := one 0 37 0 (by omega) rfl
  obtain ⟨y1, h1⟩ := one 1 39 32 (by omega) rfl
  obtain ⟨y2, h2⟩ := one 2 3 48 (by omega) rfl
  obtain ⟨y3, h3⟩ := one 3 37 49 (by omega) rfl
  obtain ⟨y4, h4⟩ := one 4 5 81 (by omega) rfl
  rw [c37] at h0 h3; rw [c39] at h1; rw [c3] at h2; rw [c5] at h4
  obtain ⟨id, hid⟩ := open_u8s Try.underlying37 (by kernel_rfl) h0
  obtain ⟨au, hau⟩ := open_u8s Try.underlying39 (by kernel_rfl) h1
  obtain ⟨d, hd, _⟩ := DataW.trod_int Try.underlying3 h2
  obtain ⟨sp, hsp⟩ := open_u8s Try.underlying37 (by kernel_rfl) h3
  obtain ⟨gn, hg, _, hw⟩ := DataW.trod_int Try.underlying5 h4
  obtain ⟨gb, rfl⟩ := wf_u8 hw
  refine ⟨⟨id, au, d, sp, gb⟩, ?_⟩
  have e : cs = (cs.drop 0).take 32 ++ ((cs.drop 32).take 16 ++ ((cs.drop 48).take 1 ++ ((cs.drop 49).take 32 ++ (cs.drop 81).take 1))) := by
    apply List.ext_getElem?
    intro i
    simp only [List.drop_zero, List.getElem?_append, List.length_take, List.length_drop, List.getElem?_take, List.getElem?_drop, hlen]
    by_cases hi : i < 82
    · repeat' split
      all_goals first | rfl | (congr 1; omega) | omega
    · rw [List.getElem?_eq_none (by omega)]
      repeat' split
      all_goals first | rfl | omega | (symm; exact List.getElem?_eq_none (by omega))
  rw [e, hid, hau, hd, hsp, hg]
  simp [rrL, rrC, u8v]
/-- an operation: drop or add, a row -/
theorem open_opL {fuel : Nat} {cs : List Value} {x : DataW H × List MemPlace} (h : DataW.trod enc Try.prog w base spare held fuel 83 cs = some x) : ∃ o : SOp, cs = opL o := by
  obtain ⟨y0, y1, n, _, hlen, h0, h1⟩ := trod_struct2 Try.underlying83 h
  have c83 : Try.prog.cellsOf 83 = 83 := by kernel_rfl
  have c4 : Try.prog.cellsOf 4 = 1 := by kernel_rfl
  have c46 : Try.prog.cellsOf 46 = 82 := by kernel_rfl
  rw [c83] at hlen
  simp only at h0 h1
  rw [c4] at h0; rw [c46] at h1
  obtain ⟨k, hk, _⟩ := DataW.trod_bool Try.underlying4 h0
  obtain ⟨e, he⟩ := open_rrL h1
  refine ⟨⟨k, e⟩, ?_⟩
  have h2 : cs = (cs.drop 0).take 1 ++ (cs.drop 1).take 82 := by
    rw [List.drop_zero, List.take_of_length_le (l := cs.drop 1) (by rw [List.length_drop]; omega), List.take_append_drop]
  rw [h2, hk, he]; rfl
theorem cell_spot {a : Addr} {v : Value} (h : w.cell? a = some v) : ∃ b o cs E fr, a = ⟨b, o, none⟩ ∧ w.heap[b]? = some (.cells cs E fr) := by
  obtain ⟨b, o, s⟩ := a
  simp only [World.cell?] at h
  split at h
  · rename_i cs E fr hb
    cases s with
    | none => exact ⟨b, o, cs, E, fr, rfl, hb⟩
    | some s => simp at h
  · cases h
theorem rrL_0 (r : RR) : (rrL r)[0]? = some (u8v r.id[0]) := by
  have h := rr_id r 0 (by omega)
  rw [idC_at _ 0 (by omega)] at h
  simpa using h
/-- a slice of rows -/
theorem open_rrs {v : Value} {d : DataW H} {ps : List MemPlace} {r : Reach} {b0 : Nat} (hv : Value.okWide Try.prog w r b0 22 v) (h : DataW.Trod enc Try.prog w 0 spare held 22 v d ps) :
    ∃ (ops : List RR) (νl : Heap), Src νl v 82 ops.length (ops.flatMap rrL) ∧ CapOK v ops.length ∧ HpOK νl w ∧ (νl.map Prod.fst).Nodup := by
  obtain ⟨A, len, cap, rfl⟩ := okWide_slice Try.underlying22 hv
  obtain ⟨fuel, hf⟩ := h
  rcases open_slice Try.underlying22 hf with ⟨h1, _⟩ | ⟨a, len', cap', m, n, D, Pl, hcs, _, hle, hm, hmm, _, hel⟩
  · simp only [Value.cells, List.cons.injEq, and_true] at h1
    cases h1
    exact ⟨[], [], ⟨rfl, .inl ⟨rfl, rfl⟩⟩, ⟨_, _, rfl, Nat.le_refl _⟩, HpOK.nil w, by simp⟩
  · simp only [Value.cells, List.cons.injEq, Value.slice.injEq, and_true] at hcs
    obtain ⟨rfl, rfl, rfl⟩ := hcs
    have cE : Try.prog.cellsOf 46 = 82 := by kernel_rfl
    rw [cE] at hel
    have hlm : len ≤ m := by rw [hmm]; split <;> omega
    have key : ∀ i, i < len → ∃ o : RR, ∀ j, j < 82 → w.cell? ((a.add (i * 82)).add j) = (rrL o)[j]? := fun i hi => by
      obtain ⟨cs', h1, h2⟩ := hel i (by omega)
      obtain ⟨o, rfl⟩ := open_rrL h2
      exact ⟨o, (World.cells?_some h1).2.2⟩
    rcases Nat.eq_zero_or_pos len with rfl | hpos
    · exact ⟨[], [], ⟨rfl, .inr ⟨a, cap, rfl, .inl rfl⟩⟩, ⟨_, _, rfl, Nat.zero_le _⟩, HpOK.nil w, by simp⟩
    · let f : Nat → RR := fun i => if h : i < len then (key i h).choose else r0
      have hfi : ∀ i, i < len → ∀ j, j < 82 → w.cell? ((a.add (i * 82)).add j) = (rrL (f i))[j]? := fun i hi j hj => by
        have := (key i hi).choose_spec j hj
        simp only [f, hi, dif_pos]
        exact this
      have h00 := hfi 0 hpos 0 (by omega)
      have hadd0 : ∀ x : Addr, x.add 0 = x := fun x => by unfold Addr.add; split <;> simp_all
      rw [Nat.zero_mul, hadd0, hadd0] at h00
      obtain ⟨b, o, cs, E, fr, rfl, hb⟩ := cell_spot (h00.trans (rrL_0 (f 0)))
      have hlen : ((List.range len).map f).length = len := by simp
      refine ⟨(List.range len).map f, [(b, .cells cs E fr)], ?_, ⟨_, _, by rw [hlen], by rw [hlen]; exact hle⟩, fun c x hx => by simp at hx; obtain ⟨rfl, rfl⟩ := hx; exact hb, by simp⟩
      have hflen := flat_len rrL_len ((List.range len).map f)
      rw [hlen] at hflen ⊢
      refine Src.ofBlock (cs := cs) (E := E) (fr := fr) hflen (by simp) (fun t u ht => ?_)
      have htl : t < len * 82 := by rw [← hflen]; exact (List.getElem?_eq_some_iff.1 ht).1
      have h1 : t / 82 < len := (Nat.div_lt_iff_lt_mul (by omega)).2 htl
      have h2 : t / 82 * 82 + t % 82 = t := by omega
      have h3 := flat_at rrL_len ((List.range len).map f) (t / 82) (t % 82) (f (t / 82)) (by simp [h1]) (Nat.mod_lt _ (by omega))
      rw [h2, ht] at h3
      have h4 := hfi (t / 82) h1 (t % 82) (Nat.mod_lt _ (by omega))
      rw [← h3, Go.Sx.add_plain, Go.Sx.add_plain, Nat.add_assoc, h2] at h4
      simpa [World.cell?, hb] using h4
/-- a slice of operations -/
theorem open_ops {v : Value} {d : DataW H} {ps : List MemPlace} {r : Reach} {b0 : Nat} (hv : Value.okWide Try.prog w r b0 53 v) (h : DataW.Trod enc Try.prog w 0 spare held 53 v d ps) :
    ∃ (ops : List SOp) (νl : Heap), Src νl v 83 ops.length (ops.flatMap opL) ∧ CapOK v ops.length ∧ HpOK νl w ∧ (νl.map Prod.fst).Nodup := by
  obtain ⟨A, len, cap, rfl⟩ := okWide_slice Try.underlying53 hv
  obtain ⟨fuel, hf⟩ := h
  rcases open_slice Try.underlying53 hf with ⟨h1, _⟩ | ⟨a, len', cap', m, n, D, Pl, hcs, _, hle, hm, hmm, _, hel⟩
  · simp only [Value.cells, List.cons.injEq, and_true] at h1
    cases h1
    exact ⟨[], [], ⟨rfl, .inl ⟨rfl, rfl⟩⟩, ⟨_, _, rfl, Nat.le_refl _⟩, HpOK.nil w, by simp⟩
  · simp only [Value.cells, List.cons.injEq, Value.slice.injEq, and_true] at hcs
    obtain ⟨rfl, rfl, rfl⟩ := hcs
    have cE : Try.prog.cellsOf 83 = 83 := by kernel_rfl
    rw [cE] at hel
    have hlm : len ≤ m := by rw [hmm]; split <;> omega
    have key : ∀ i, i < len → ∃ o : SOp, ∀ j, j < 83 → w.cell? ((a.add (i * 83)).add j) = (opL o)[j]? := fun i hi => by
      obtain ⟨cs', h1, h2⟩ := hel i (by omega)
      obtain ⟨o, rfl⟩ := open_opL h2
      exact ⟨o, (World.cells?_some h1).2.2⟩
    rcases Nat.eq_zero_or_pos len with rfl | hpos
    · exact ⟨[], [], ⟨rfl, .inr ⟨a, cap, rfl, .inl rfl⟩⟩, ⟨_, _, rfl, Nat.zero_le _⟩, HpOK.nil w, by simp⟩
    · let f : Nat → SOp := fun i => if h : i < len then (key i h).choose else ⟨false, r0⟩
      have hfi : ∀ i, i < len → ∀ j, j < 83 → w.cell? ((a.add (i * 83)).add j) = (opL (f i))[j]? := fun i hi j hj => by
        have := (key i hi).choose_spec j hj
        simp only [f, hi, dif_pos]
        exact this
      have h00 := hfi 0 hpos 0 (by omega)
      have hadd0 : ∀ x : Addr, x.add 0 = x := fun x => by unfold Addr.add; split <;> simp_all
      rw [Nat.zero_mul, hadd0, hadd0] at h00
      obtain ⟨b, o, cs, E, fr, rfl, hb⟩ := cell_spot (h00.trans (rfl : (opL (f 0))[0]? = some (.bool (f 0).drop)))
      have hlen : ((List.range len).map f).length = len := by simp
      refine ⟨(List.range len).map f, [(b, .cells cs E fr)], ?_, ⟨_, _, by rw [hlen], by rw [hlen]; exact hle⟩, fun c x hx => by simp at hx; obtain ⟨rfl, rfl⟩ := hx; exact hb, by simp⟩
      have hflen := flat_len opL_len ((List.range len).map f)
      rw [hlen] at hflen ⊢
      refine Src.ofBlock (cs := cs) (E := E) (fr := fr) hflen (by simp) (fun t u ht => ?_)
      have htl : t < len * 83 := by rw [← hflen]; exact (List.getElem?_eq_some_iff.1 ht).1
      have h1 : t / 83 < len := (Nat.div_lt_iff_lt_mul (by omega)).2 htl
      have h2 : t / 83 * 83 + t % 83 = t := by omega
      have h3 := flat_at opL_len ((List.range len).map f) (t / 83) (t % 83) (f (t / 83)) (by simp [h1]) (Nat.mod_lt _ (by omega))
      rw [h2, ht] at h3
      have h4 := hfi (t / 83) h1 (t % 83) (Nat.mod_lt _ (by omega))
      rw [← h3, Go.Sx.add_plain, Go.Sx.add_plain, Nat.add_assoc, h2] at h4
      simpa [World.cell?, hb] using h4
theorem open_idV {t : TypeId} {v : Value} {d : DataW H} {ps : List MemPlace} (ht : Try.prog.underlying t = some (.array 32 5)) (hc : Try.prog.cellsOf t = 32) {r : Reach} {b0 : Nat} (hv : Value.okWide Try.prog w r b0 t v) (h : DataW.Trod enc Try.prog w 0 spare held t v d ps) : ∃ id : Id, v = idK id := by
  obtain ⟨cs, rfl⟩ : ∃ cs, v = .agg cs := by
    simp only [Value.okWide, ht] at hv
    obtain ⟨cs, h1, _⟩ := hv
    exact ⟨cs, h1⟩
  obtain ⟨fuel, hf⟩ := h
  obtain ⟨id, hid⟩ := open_u8s ht hc hf
  refine ⟨id, ?_⟩
  simp only [Value.cells] at hid
  rw [show cs = idC id from Array.ext' hid]
theorem open_rrV {v : Value} {d : DataW H} {ps : List MemPlace} {r : Reach} {b0 : Nat} (hv : Value.okWide Try.prog w r b0 46 v) (h : DataW.Trod enc Try.prog w 0 spare held 46 v d ps) : ∃ x : RR, v = rrK x := by
  obtain ⟨cs, rfl, _⟩ := okWide_struct Try.underlying46 hv
  obtain ⟨fuel, hf⟩ := h
  obtain ⟨x, hx⟩ := open_rrL hf
  refine ⟨x, ?_⟩
  simp only [Value.cells] at hx
  rw [show cs = rrC x from Array.ext' hx]
end
end Go.Proofs.Ytaagmgpfpaanlaa
