/- The laws' arguments opened: identities, entries, operations. No conditions. -/
import Derived.Test.YtegjmmjjchpeoaaRel
import Derived.Test.YtegjmmjjchpeoaaLx
namespace Go.Proofs.Ytegjmmjjchpeoaa
open Go Go.RowKit Go.Sx Go.WideShapes Go.ChangeShapes Go.Deep
set_option maxRecDepth 100000
section
variable {H : Type} {enc : TypeId × Value → H} {w : World} {base : Nat} {spare : Nat → Bool} {held : Bool}
theorem wf_u8 {n : Int} (h : (Lit.int .u8 n).wf = true) : ∃ b : UInt8, n = b.toNat := by
  have h' : 0 ≤ n ∧ n ≤ 255 := by simpa [Lit.wf, IntKind.min, IntKind.max, IntKind.signed, IntKind.bits] using h
  refine ⟨UInt8.ofNat n.toNat, ?_⟩
  have : n.toNat < 256 := by omega
  simp [Nat.mod_eq_of_lt this]
  omega
theorem open_u8s {t : TypeId} (ht : Try.prog.underlying t = some (.array 32 5)) (hc : Try.prog.cellsOf t = 32) {fuel : Nat} {cs : List Value} {x : DataW H × List MemPlace} (h : DataW.trod enc Try.prog w base spare held fuel t cs = some x) : ∃ id : Id, cs = (idC id).toList := by
  obtain ⟨xs, m, _, _, hlen, hxl, hel⟩ := DataW.trod_array ht h
  rw [hc] at hlen
  have hc5 : Try.prog.cellsOf 5 = 1 := by kernel_rfl
  have key : ∀ i, i < 32 → ∃ b : UInt8, cs[i]? = some (.int .u8 b.toNat) := fun i hi => by
    have h1 := hel i hi
    rw [hc5, Nat.mul_one, List.getElem?_eq_getElem (by omega)] at h1
    obtain ⟨n, hn, _, hw⟩ := DataW.trod_int Try.underlying5 h1
    obtain ⟨b, hb⟩ := wf_u8 hw
    rw [List.drop_eq_getElem_cons (by omega)] at hn
    simp only [List.take_succ_cons, List.take_zero, List.cons.injEq, and_true] at hn
    exact ⟨b, by rw [List.getElem?_eq_getElem (by omega), hn, hb]⟩
  let f : Fin 32 → UInt8 := fun i => (key i.1 i.2).choose
  refine ⟨Vector.ofFn f, ?_⟩
  apply List.ext_getElem?
  intro i
  by_cases hi : i < 32
  · refine (key i hi).choose_spec.trans ?_
    refine Eq.trans ?_ ((Array.getElem?_toList ..).trans (idC_at _ i hi)).symm
    simp [u8v, f]
  · rw [List.getElem?_eq_none (by omega), List.getElem?_eq_none (by simp [idC_size]; omega)]
theorem open_entL {t : TypeId} {fs : Array Field} (ht : Try.prog.underlying t = some (.struct fs)) (hc : Try.prog.cellsOf t = 36) (hfs : fs.map (fun f => (f.type, f.offset)) = #[(22, 0), (3, 32), (3, 33), (3, 34), (4, 35)]) {fuel : Nat} {cs : List Value} {x : DataW H × List MemPlace}
    (h : DataW.trod enc Try.prog w base spare held fuel t cs = some x) : ∃ e : Ent, cs = entL e := by
  obtain ⟨xs, n, _, _, hlen, hxl, hel⟩ := DataW.trod_struct ht h
  rw [hc] at hlen
  have hsz : fs.size = 5 := by have := congrArg Array.size hfs; simpa using this
  have hf : ∀ i, i < 5 → ∃ F, fs[i]? = some F ∧ (F.type, F.offset) = (#[(22, 0), (3, 32), (3, 33), (3, 34), (4, 35)] : Array (TypeId × Nat))[i]! := fun i hi => by
    have h1 : (fs.map (fun f => (f.type, f.offset)))[i]? = (#[(22, 0), (3, 32), (3, 33), (3, 34), (4, 35)] : Array (TypeId × Nat))[i]? := by rw [hfs]
    rw [Array.getElem?_map] at h1
    have hi' : i < fs.size := by omega
    rw [Array.getElem?_eq_getElem hi'] at h1 ⊢
    refine ⟨_, rfl, ?_⟩
    rw [Array.getElem?_eq_getElem (by simpa using hi)] at h1
    simp only [Option.map_some, Option.some.injEq] at h1
    rw [h1, getElem!_pos _ i (by simpa using hi)]
  have one : ∀ i T o, i < 5 → (#[(22, 0), (3, 32), (3, 33), (3, 34), (4, 35)] : Array (TypeId × Nat))[i]! = (T, o) → ∃ y, DataW.trod enc Try.prog w base spare held n T ((cs.drop o).take (Try.prog.cellsOf T)) = some y := fun i T o hi hT => by
    obtain ⟨F, h1, h2⟩ := hf i hi
    rw [hT] at h2
    simp only [Prod.mk.injEq] at h2
    have h3 := hel i F h1
    rw [h2.1, h2.2, List.getElem?_eq_getElem (by omega)] at h3
    exact ⟨_, h3⟩
  have c22 : Try.prog.cellsOf 22 = 32 := by kernel_rfl
  have c3 : Try.prog.cellsOf 3 = 1 := by kernel_rfl
  have c4 : Try.prog.cellsOf 4 = 1 := by kernel_rfl
  obtain ⟨y0, h0⟩ := one 0 22 0 (by omega) rfl
  obtain ⟨y1, h1⟩ := one 1 3 32 (by omega) rfl
  obtain ⟨y2, h2⟩ := one 2 3 33 (by omega) rfl
  obtain ⟨y3, h3⟩ := one 3 3 34 (by omega) rfl
  obtain ⟨y4, h4⟩ := one 4 4 35 (by omega) rfl
  rw [c22] at h0; rw [c3] at h1 h2 h3; rw [c4] at h4
  obtain ⟨id, hid⟩ := open_u8s Try.underlying22 (by kernel_rfl) h0
  obtain ⟨a, ha, _⟩ := DataW.trod_int Try.underlying3 h1
  obtain ⟨d, hd, _⟩ := DataW.trod_int Try.underlying3 h2
  obtain ⟨s, hs, _⟩ := DataW.trod_int Try.underlying3 h3
  obtain ⟨p, hp, _⟩ := DataW.trod_bool Try.underlying4 h4
  refine ⟨⟨id, a, d, s, p⟩, ?_⟩
  have e : cs = (cs.drop 0).take 32 ++ ((cs.drop 32).take 1 ++ ((cs.drop 33).take 1 ++ ((cs.drop 34).take 1 ++ (cs.drop 35).take 1))) := by
    apply List.ext_getElem?
    intro i
    simp only [List.drop_zero, List.getElem?_append, List.length_take, List.length_drop, List.getElem?_take, List.getElem?_drop, hlen]
    by_cases hi : i < 36
    · repeat' split
      all_goals first | rfl | (congr 1; omega) | omega
    · rw [List.getElem?_eq_none (by omega)]
      repeat' split
      all_goals first | rfl | omega | (symm; exact List.getElem?_eq_none (by omega))
  rw [e, hid, ha, hd, hs, hp]
  simp [entL, entC]
theorem open_opL {fuel : Nat} {cs : List Value} {x : DataW H × List MemPlace} (h : DataW.trod enc Try.prog w base spare held fuel 44 cs = some x) : ∃ o : POp, cs = opL o := by
  obtain ⟨y0, y1, n, _, hlen, h0, h1⟩ := trod_struct2 Try.underlying44 h
  have c44 : Try.prog.cellsOf 44 = 37 := by kernel_rfl
  have c5 : Try.prog.cellsOf 5 = 1 := by kernel_rfl
  have c24 : Try.prog.cellsOf 24 = 36 := by kernel_rfl
  rw [c44] at hlen
  simp only at h0 h1
  rw [c5] at h0; rw [c24] at h1
  obtain ⟨k, hk, _, hw⟩ := DataW.trod_int Try.underlying5 h0
  obtain ⟨b, rfl⟩ := wf_u8 hw
  obtain ⟨e, he⟩ := open_entL Try.underlying24 c24 (by simp) h1
  refine ⟨⟨b, e⟩, ?_⟩
  have h2 : cs = (cs.drop 0).take 1 ++ (cs.drop 1).take 36 := by
    rw [List.drop_zero, List.take_of_length_le (l := cs.drop 1) (by rw [List.length_drop]; omega), List.take_append_drop]
  rw [h2, hk, he]; rfl
theorem cell_spot {a : Addr} {v : Value} (h : w.cell? a = some v) : ∃ b o cs E fr, a = ⟨b, o, none⟩ ∧ w.heap[b]? = some (.cells cs E fr) := by
  obtain ⟨b, o, s⟩ := a
  simp only [World.cell?] at h
  split at h
  · rename_i cs E fr hb
    cases s with
    | none => exact ⟨b, o, cs, E, fr, rfl, hb⟩
    | some s => simp at h
  · cases h
/-- a slice of operations -/
theorem open_ops {v : Value} {d : DataW H} {ps : List MemPlace} {r : Reach} {b0 : Nat} (hv : Value.okWide Try.prog w r b0 34 v) (h : DataW.Trod enc Try.prog w 0 spare held 34 v d ps) :
    ∃ (ops : List POp) (νl : Heap), Src νl v 37 ops.length (ops.flatMap opL) ∧ HpOK νl w ∧ (νl.map Prod.fst).Nodup := by
  obtain ⟨A, len, cap, rfl⟩ := okWide_slice Try.underlying34 hv
  obtain ⟨fuel, hf⟩ := h
  rcases open_slice Try.underlying34 hf with ⟨h1, _⟩ | ⟨a, len', cap', m, n, D, Pl, hcs, _, hle, hm, hmm, _, hel⟩
  · simp only [Value.cells, List.cons.injEq, and_true] at h1
    cases h1
    exact ⟨[], [], ⟨rfl, .inl ⟨rfl, rfl⟩⟩, HpOK.nil w, by simp⟩
  · simp only [Value.cells, List.cons.injEq, Value.slice.injEq, and_true] at hcs
    obtain ⟨rfl, rfl, rfl⟩ := hcs
    have c44 : Try.prog.cellsOf 44 = 37 := by kernel_rfl
    rw [c44] at hel
    have hlm : len ≤ m := by rw [hmm]; split <;> omega
    have key : ∀ i, i < len → ∃ o : POp, ∀ j, j < 37 → w.cell? ((a.add (i * 37)).add j) = (opL o)[j]? := fun i hi => by
      obtain ⟨cs', h1, h2⟩ := hel i (by omega)
      obtain ⟨o, rfl⟩ := open_opL h2
      exact ⟨o, (World.cells?_some h1).2.2⟩
    rcases Nat.eq_zero_or_pos len with rfl | hpos
    · exact ⟨[], [], ⟨rfl, .inr ⟨a, cap, rfl, .inl rfl⟩⟩, HpOK.nil w, by simp⟩
    · let f : Nat → POp := fun i => if h : i < len then (key i h).choose else ⟨0, ent0⟩
      have hfi : ∀ i, i < len → ∀ j, j < 37 → w.cell? ((a.add (i * 37)).add j) = (opL (f i))[j]? := fun i hi j hj => by
        have := (key i hi).choose_spec j hj
        simp only [f, hi, dif_pos]
        exact this
      have h00 := hfi 0 hpos 0 (by omega)
      have hadd0 : ∀ x : Addr, x.add 0 = x := fun x => by unfold Addr.add; split <;> simp_all
      rw [Nat.zero_mul, hadd0, hadd0] at h00
      obtain ⟨b, o, cs, E, fr, rfl, hb⟩ := cell_spot (h00.trans (rfl : (opL (f 0))[0]? = some (u8v (f 0).kind)))
      have hlen : ((List.range len).map f).length = len := by simp
      refine ⟨(List.range len).map f, [(b, .cells cs E fr)], ?_, fun c x hx => by simp at hx; obtain ⟨rfl, rfl⟩ := hx; exact hb, by simp⟩
      have hflen := flat_len opL_len ((List.range len).map f)
      rw [hlen] at hflen ⊢
      refine Src.ofBlock (cs := cs) (E := E) (fr := fr) hflen (by simp) (fun t u ht => ?_)
      have htl : t < len * 37 := by rw [← hflen]; exact (List.getElem?_eq_some_iff.1 ht).1
      have h1 : t / 37 < len := (Nat.div_lt_iff_lt_mul (by omega)).2 htl
      have h2 : t / 37 * 37 + t % 37 = t := by omega
      have h3 := flat_at opL_len ((List.range len).map f) (t / 37) (t % 37) (f (t / 37)) (by simp [h1]) (Nat.mod_lt _ (by omega))
      rw [h2, ht] at h3
      have h4 := hfi (t / 37) h1 (t % 37) (Nat.mod_lt _ (by omega))
      rw [← h3, Go.Sx.add_plain, Go.Sx.add_plain, Nat.add_assoc, h2] at h4
      simpa [World.cell?, hb] using h4
theorem open_idV {t : TypeId} {v : Value} {d : DataW H} {ps : List MemPlace} (ht : Try.prog.underlying t = some (.array 32 5)) (hc : Try.prog.cellsOf t = 32) {r : Reach} {b0 : Nat} (hv : Value.okWide Try.prog w r b0 t v) (h : DataW.Trod enc Try.prog w 0 spare held t v d ps) : ∃ id : Id, v = idK id := by
  obtain ⟨cs, rfl⟩ : ∃ cs, v = .agg cs := by
    simp only [Value.okWide, ht] at hv
    obtain ⟨cs, h1, _⟩ := hv
    exact ⟨cs, h1⟩
  obtain ⟨fuel, hf⟩ := h
  obtain ⟨id, hid⟩ := open_u8s ht hc hf
  refine ⟨id, ?_⟩
  simp only [Value.cells] at hid
  rw [show cs = idC id from Array.ext' hid]
theorem open_entV {v : Value} {d : DataW H} {ps : List MemPlace} {r : Reach} {b0 : Nat} (hv : Value.okWide Try.prog w r b0 24 v) (h : DataW.Trod enc Try.prog w 0 spare held 24 v d ps) : ∃ x : Ent, v = entK x := by
  obtain ⟨cs, rfl, _⟩ := okWide_struct Try.underlying24 hv
  obtain ⟨fuel, hf⟩ := h
  obtain ⟨x, hx⟩ := open_entL Try.underlying24 (by kernel_rfl) (by simp) hf
  refine ⟨x, ?_⟩
  simp only [Value.cells] at hx
  rw [show cs = entC x from Array.ext' hx]
end
end Go.Proofs.Ytegjmmjjchpeoaa
