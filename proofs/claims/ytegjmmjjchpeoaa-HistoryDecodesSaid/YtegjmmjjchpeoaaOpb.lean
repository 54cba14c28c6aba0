/- The laws' arguments opened: bytes. No conditions. -/
import Derived.Test.YtegjmmjjchpeoaaOpen
import Derived.Test.YtegjmmjjchpeoaaByt
namespace Go.Proofs.Ytegjmmjjchpeoaa
open Go Go.RowKit Go.Sx Go.WideShapes Go.ChangeShapes Go.Deep
set_option maxRecDepth 100000
section
variable {H : Type} {enc : TypeId × Value → H} {w : World} {spare : Nat → Bool} {held : Bool}
/-- a slice of bytes: empty, or bytes in a block -/
theorem open_bytesV {v : Value} {d : DataW H} {ps : List MemPlace} {r : Reach} {b0 : Nat} (hv : Value.okWide Try.prog w r b0 64 v) (h : DataW.Trod enc Try.prog w 0 spare held 64 v d ps) :
    (∃ A c, v = .slice A 0 c) ∨ ∃ (g o n c : Nat) (cs : Array Value) (E : TypeId) (fr : Nat × Nat) (bs : List UInt8), v = .slice (some ⟨g, o, none⟩) n c ∧ n ≤ c ∧ BytesAt cs o n bs ∧ HpOK [(g, .cells cs E fr)] w := by
  obtain ⟨A, len, cap, rfl⟩ := okWide_slice Try.underlying64 hv
  obtain ⟨fuel, hf⟩ := h
  rcases open_slice Try.underlying64 hf with ⟨h1, _⟩ | ⟨a, len', cap', m, n, D, Pl, hcs, _, hle, hm, hmm, _, hel⟩
  · simp only [Value.cells, List.cons.injEq, and_true] at h1
    cases h1
    exact .inl ⟨_, _, rfl⟩
  · simp only [Value.cells, List.cons.injEq, Value.slice.injEq, and_true] at hcs
    obtain ⟨rfl, rfl, rfl⟩ := hcs
    have c5 : Try.prog.cellsOf 5 = 1 := by kernel_rfl
    rw [c5] at hel
    have hlm : len ≤ m := by rw [hmm]; split <;> omega
    have key : ∀ i, i < len → ∃ o : UInt8, w.cell? (a.add i) = some (u8v o) := fun i hi => by
      obtain ⟨cs', h1, h2⟩ := hel i (by omega)
      obtain ⟨n', hn', _, hw'⟩ := DataW.trod_int Try.underlying5 h2
      obtain ⟨b, rfl⟩ := wf_u8 hw'
      have h3 := (World.cells?_some h1).2.2 0 (by omega)
      have hadd0 : ∀ x : Addr, x.add 0 = x := fun x => by unfold Addr.add; split <;> simp_all
      rw [Nat.mul_one, hadd0, hn'] at h3
      exact ⟨b, h3⟩
    rcases Nat.eq_zero_or_pos len with rfl | hpos
    · exact .inl ⟨_, _, rfl⟩
    · let f : Nat → UInt8 := fun i => if h : i < len then (key i h).choose else 0
      have hfi : ∀ i, i < len → w.cell? (a.add i) = some (u8v (f i)) := fun i hi => by
        have := (key i hi).choose_spec
        simp only [f, hi, dif_pos]
        exact this
      have hadd0 : ∀ x : Addr, x.add 0 = x := fun x => by unfold Addr.add; split <;> simp_all
      have h00 := hfi 0 hpos
      rw [hadd0] at h00
      obtain ⟨b, o, cs, E, fr, rfl, hb⟩ := cell_spot h00
      refine .inr ⟨b, o, len, cap, cs, E, fr, (List.range len).map f, rfl, hle, ⟨by simp, fun j x hj => ?_⟩, fun c x hx => by simp at hx; obtain ⟨rfl, rfl⟩ := hx; exact hb⟩
      have hjl : j < len := by have := (List.getElem?_eq_some_iff.1 hj).1; simpa using this
      rw [List.getElem?_map, List.getElem?_range hjl] at hj
      simp only [Option.map_some, Option.some.injEq] at hj
      subst hj
      have h1 := hfi j hjl
      rw [Go.Sx.add_plain] at h1
      have h2 : cs[o + j]? = some (u8v (f j)) := by simpa [World.cell?, hb] using h1
      exact h2
end
end Go.Proofs.Ytegjmmjjchpeoaa
