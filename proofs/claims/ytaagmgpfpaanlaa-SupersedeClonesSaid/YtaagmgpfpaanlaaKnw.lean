/- The chapter's examples. No conditions. -/
import Derived.Test.YtaagmgpfpaanlaaW7
namespace Go.Proofs.Ytaagmgpfpaanlaa
open Go Go.RowKit Go.Sx
set_option linter.unusedVariables false
def kid (b : UInt8) : Id := id0.set 0 b
abbrev kx : RR := ⟨id0.set 0 1, au0, 10, id0, 0⟩
abbrev ky1 : RR := ⟨id0.set 0 2, au0, 11, id0.set 0 1, 0⟩
abbrev ky2 : RR := ⟨id0.set 0 3, au0, 12, id0.set 0 1, 0⟩
abbrev kz : RR := ⟨id0.set 0 4, au0, 13, id0.set 0 2, 0⟩
abbrev kh (r : RR) : HR := ⟨r, gnil⟩
abbrev rowsC (l : List RR) : Array Value := ((l.map kh).flatMap hrL).toArray
theorem rowsC_src (l : List RR) (b : Nat) (c : Nat) (n : Nat) (hn : l.length = n) : Src [(b, .cells (rowsC l) 43 (0, 0))] (.slice (some ⟨b, 0, none⟩) n c) 83 (l.map kh).length ((l.map kh).flatMap hrL) := by
  subst hn
  rw [List.length_map]
  exact Src.ofBlock (o := 0) (cs := rowsC l) (E := 43) (fr := (0, 0)) (by rw [flat_len hrL_len, List.length_map]) (List.mem_singleton.2 rfl) (fun j v hj => by rw [Nat.zero_add]; simpa [rowsC] using hj)
theorem kh_gok (l : List RR) (h : ∀ r ∈ l, r.grp = 0) (φ : Heap) : ∀ x ∈ l.map kh, GOK φ x.g x.r.grp := fun x hx => by
  obtain ⟨r, hr, rfl⟩ := List.mem_map.1 hx
  show GOK φ gnil r.grp
  rw [h r hr]
  exact GOK.zero φ
theorem rows_builds (l : List RR) (n : Nat) (hn : l.length = n) (h0 : 0 < n) (h2 : n ≤ 100) : BuildsS Try.prog 23 n (partsOf 0 (l.map fun r => rowC r gnil)) 43 (rowsC l) :=
  BuildsS.rows _ n (by simpa using hn) h0 h2 Try.underlying23 Try.sizeOf43 (by omega) (by omega) zero43 (fun v hv => by
    obtain ⟨r, _, rfl⟩ := List.mem_map.1 hv
    exact rowC_size r gnil) (by simp [List.flatMap_map])
instance (a b : RR) : BuildsS Try.prog 23 2 [(0, .agg (rowC a gnil)), (1, .agg (rowC b gnil))] 43 (rowsC [a, b]) := rows_builds [a, b] 2 rfl (by omega) (by omega)
instance (a b c : RR) : BuildsS Try.prog 23 3 [(0, .agg (rowC a gnil)), (1, .agg (rowC b gnil)), (2, .agg (rowC c gnil))] 43 (rowsC [a, b, c]) := rows_builds [a, b, c] 3 rfl (by omega) (by omega)
instance (a b c d : RR) : BuildsS Try.prog 23 4 [(0, .agg (rowC a gnil)), (1, .agg (rowC b gnil)), (2, .agg (rowC c gnil)), (3, .agg (rowC d gnil))] 43 (rowsC [a, b, c, d]) := rows_builds [a, b, c, d] 4 rfl (by omega) (by omega)
theorem map_kh (l : List RR) : (l.map kh).map HR.r = l := by rw [List.map_map]; exact List.map_id l
theorem kc1 : chkE [kx, ky1, ky2] = 0 := by decide +kernel
theorem kc2 : chkE [kz, ky2, ky1, kx] = 0 := by decide +kernel
theorem kc3 : chkE [ky1, ky2] = 0 := by decide +kernel
theorem kc4 : chkE [kx, kz] = 0 := by decide +kernel
theorem ke1 : endsI [kx, ky1, ky2] (fun id => !wdB [kx, ky1, ky2] id) = [id0.set 0 3] := by decide +kernel
theorem ke2 : endsI [kz, ky2, ky1, kx] (wdB [kz, ky2, ky1, kx]) = [id0.set 0 1, id0.set 0 2] := by decide +kernel
theorem ke3 : endsI [ky1, ky2] (fun id => !wdB [ky1, ky2] id) = [id0.set 0 3] := by decide +kernel
theorem ke4 : (endsI [kx, kz] (fun id => !wdB [kx, kz] id)).length = 2 := by decide +kernel
theorem ko1 : outB ky2 ky1 := by decide +kernel
theorem ko2 : ¬ outB ky1 ky2 := by decide +kernel
section
variable {σ : Slots} {φ : Heap} {dst : Option Tmp} {ty : TypeId} {pos : String} {aft : Array Edge} {g : Option (Nat × Bool)}
theorem rd_eqid_t {n : Nat} {T U : TypeId} {x y : Operand} {a b : Vector UInt8 n} (hx : ev σ x = some (.agg (idC a))) (hy : ev σ y = some (.agg (idC b))) (hT : Try.prog.underlying T = some (.array n 5)) (hm : Try.prog.eqGuardType Try.prog.depth T = false) (h : a = b) : Rd Try.prog σ φ ⟨dst, .binOp .eql T x y U, ty, pos, aft, g⟩ (.bool true) := by
  have h1 := rd_eqid (φ := φ) (dst := dst) (ty := ty) (pos := pos) (aft := aft) (g := g) (U := U) hx hy hT hm
  rwa [decide_eq_true h] at h1
theorem rd_neid_f {n : Nat} {T U : TypeId} {x y : Operand} {a b : Vector UInt8 n} (hx : ev σ x = some (.agg (idC a))) (hy : ev σ y = some (.agg (idC b))) (hT : Try.prog.underlying T = some (.array n 5)) (hm : Try.prog.eqGuardType Try.prog.depth T = false) (h : a = b) : Rd Try.prog σ φ ⟨dst, .binOp .neq T x y U, ty, pos, aft, g⟩ (.bool false) := by
  have h1 := rd_neid (φ := φ) (dst := dst) (ty := ty) (pos := pos) (aft := aft) (g := g) (U := U) hx hy hT hm
  rwa [decide_eq_false (fun hn => hn h)] at h1
end
end Go.Proofs.Ytaagmgpfpaanlaa
