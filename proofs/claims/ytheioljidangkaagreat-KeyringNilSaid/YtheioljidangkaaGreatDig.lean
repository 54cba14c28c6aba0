/- Digests: their bytes; parts of arrays. No conditions. -/
import Derived.Test.YtheioljidangkaaGreatStb
import Derived.Test.YtheioljidangkaaGreatW5
import Derived.Test.YtheioljidangkaaGreatAx
import Derived.Test.YtheioljidangkaaGreatBx
namespace Go.Proofs.YtheioljidangkaaGreat
open Go Go.RowKit Go.Sx
set_option linter.unusedVariables false
set_option linter.unusedSimpArgs false
/-- byte j of a digest -/
def byteOf (h : WV 8) (j : Nat) : UInt8 := (shr32 (wg h (j / 4)) (24 - 8 * (j % 4))).toUInt8
def dig (h : WV 8) (n : Nat) : Id := Vector.ofFn fun j => if j.1 < n then byteOf h j.1 else 0
theorem dig_zero (h : WV 8) : dig h 0 = zv 32 := by
  apply Vector.ext
  intro i hi
  simp [dig, zv]
theorem dig_set (h : WV 8) (n : Nat) (hn : n < 32) : (dig h n).set n (byteOf h n) hn = dig h (n + 1) := by
  apply Vector.ext
  intro i hi
  simp only [Vector.getElem_set, dig, Vector.getElem_ofFn]
  by_cases e : n = i
  · subst e; simp
  · rw [if_neg e]
    by_cases h1 : i < n
    · rw [if_pos h1, if_pos (by omega)]
    · rw [if_neg h1, if_neg (by omega)]
theorem id_setAt {n : Nat} (x : Vector UInt8 n) (j : Nat) (hj : j < n) (b : UInt8) : SetAt (idC x) j (u8v b) (idC (x.set j b hj)) := ⟨by rw [idC_size]; exact hj, by
  have h := (idC_set x j hj b).symm
  rw [h, splice]; rfl⟩
/-- the words of a digest added up to j -/
def plusP (h v : WV 8) (n : Nat) : WV 8 := Vector.ofFn fun j => if j.1 < n then h[j] + v[j] else h[j]
theorem wg_at {n : Nat} (v : WV n) {i : Nat} (hi : i < n) : wg v i = v[i] := by simp [wg, hi]
theorem plusP_at (h v : WV 8) (n i : Nat) (hi : i < 8) : (plusP h v n)[i] = if i < n then h[i] + v[i] else h[i] := by simp [plusP]
theorem plusP_zero (h v : WV 8) : plusP h v 0 = h := by
  apply Vector.ext
  intro i hi
  simp [plusP_at]
theorem plusP_set (h v : WV 8) (n : Nat) (hn : n < 8) : wset (plusP h v n) n (wg (plusP h v n) n + wg v n) = plusP h v (n + 1) := by
  rw [wset, dif_pos hn, wg_at _ hn, wg_at _ hn]
  apply Vector.ext
  intro i hi
  rw [Vector.getElem_set, plusP_at _ _ _ _ hi, plusP_at _ _ _ _ hi, plusP_at _ _ _ _ hn]
  by_cases e : n = i
  · subst e; simp
  · rw [if_neg e]
    by_cases h1 : i < n
    · rw [if_pos h1, if_pos (by omega)]
    · rw [if_neg h1, if_neg (by omega)]
theorem plusP_all (h v : WV 8) : plusP h v 8 = plusF h v := by
  apply Vector.ext
  intro i hi
  rw [plusP_at _ _ _ _ hi, if_pos hi]
  simp only [plusF]
  have h8 : i = 0 ∨ i = 1 ∨ i = 2 ∨ i = 3 ∨ i = 4 ∨ i = 5 ∨ i = 6 ∨ i = 7 := by omega
  rcases h8 with rfl | rfl | rfl | rfl | rfl | rfl | rfl | rfl <;> rfl
/-- the block that is hashed -/
def padB (bs : List UInt8) : List UInt8 := padZ bs 38 ++ lenB 8
theorem padB_len {bs : List UInt8} (h : bs.length = 17) : (padB bs).length = 64 := by simp [padB, padZ, lenB, h]
def digW (bs : List UInt8) : WV 8 := plusF kI (refRounds (padB bs) 64)
def digF (bs : List UInt8) : Id := dig (digW bs) 32
def hst (bs : List UInt8) (t : Nat) : WV 8 := if t = 0 then kI else digW bs
/-- the first half of a digest -/
def halfF (x : Id) : Au := Vector.ofFn fun j => x[j.1]
theorem half_at (x : Id) (j : Nat) (hj : j < 16) : (idC x)[0 + j]? = (idC (halfF x))[j]? := by
  rw [Nat.zero_add, idC_at x j (by omega), idC_at _ j hj]
  simp [halfF]
theorem half_cells (x : Id) : (idC x).toList.take 16 = (idC (halfF x)).toList := by
  apply List.ext_getElem?
  intro j
  rw [List.getElem?_take]
  by_cases hj : j < 16
  · rw [if_pos hj, Array.getElem?_toList, Array.getElem?_toList, ← half_at x j hj, Nat.zero_add]
  · rw [if_neg hj, List.getElem?_eq_none (by simp [idC_size]; omega)]
/-- the bytes of a key -/
def pubB (h : UInt8) (r : Au) : List UInt8 := h :: r.toList
theorem pubB_len (h : UInt8) (r : Au) : (pubB h r).length = 17 := by simp [pubB]
/-- a height as a byte -/
def hB (h : Int) : UInt8 := UInt8.ofNat (IntKind.u8.wrap h).toNat
theorem hB_wrap (h : Int) : IntKind.u8.wrap h = ((hB h).toNat : Nat) := by
  have h1 : IntKind.u8.wrap h = h % 256 := by simp [IntKind.wrap, IntKind.bits, IntKind.signed]
  have h2 : 0 ≤ h % 256 := Int.emod_nonneg _ (by omega)
  have h3 : h % 256 < 256 := Int.emod_lt_of_pos _ (by omega)
  rw [hB, h1]
  simp only [UInt8.toNat_ofNat']
  omega
/-- the identity of a key -/
def ofF (p : Pub) : Au := halfF (digF (pubB (hB p.h) p.root))
theorem tdiv4 (i : Nat) : ((i : Nat) : Int).tdiv 4 = ((i / 4 : Nat) : Int) := by
  rw [Int.tdiv_eq_ediv_of_nonneg (by omega)]; rfl
theorem tmodN (i k : Nat) : ((i : Nat) : Int).tmod (k : Nat) = ((i % k : Nat) : Int) := by
  rw [Int.tmod_eq_emod_of_nonneg (by omega)]; rfl
theorem byL_src {φ : Heap} {b c : Nat} {cs : Array Value} {E : TypeId} {fr : Nat × Nat} {o n : Nat} {bs : List UInt8} (h : BytesAt cs o n bs) (hm : (b, Obj.cells cs E fr) ∈ φ) : Src φ (.slice (some ⟨b, o, none⟩) n c) 1 n (byL bs) := Src.bytes h hm
theorem half_fill {x : Id} {cur : Array Value} (h : cur.toList.length = 16) : (idC (halfF x)) = (cur.toList.take 0 ++ (idC (halfF x)).toList ++ cur.toList.drop (0 + (idC (halfF x)).toList.length)).toArray := by
  apply Array.ext'
  simp [idC_size, List.drop_eq_nil_of_le (show cur.toList.length ≤ 16 by omega)]
theorem round_cells (v : WV 8) (k w : UInt32) : wC #v[v[7] + (rotR v[4] 6 ^^^ rotR v[4] 11 ^^^ rotR v[4] 25) + ((v[4] &&& v[5]) ^^^ (((4294967295 : UInt32) ^^^ v[4]) &&& v[6])) + k + w + ((rotR v[0] 2 ^^^ rotR v[0] 13 ^^^ rotR v[0] 22) + ((v[0] &&& v[1]) ^^^ (v[0] &&& v[2]) ^^^ (v[1] &&& v[2]))), v[0], v[1], v[2], v[3] + (v[7] + (rotR v[4] 6 ^^^ rotR v[4] 11 ^^^ rotR v[4] 25) + ((v[4] &&& v[5]) ^^^ (((4294967295 : UInt32) ^^^ v[4]) &&& v[6])) + k + w), v[4], v[5], v[6]] = wC (roundF v k w) := rfl
theorem round_next (bs : List UInt8) (r : Nat) : roundF (refRounds bs r) (wg kK r) (wg (schedF bs 64) r) = refRounds bs (r + 1) := rfl
end Go.Proofs.YtheioljidangkaaGreat
namespace Go.Sx
open Go Go.RowKit
section
variable {P : Program} {σ : Slots} {φ : Heap} {dst : Option Tmp} {ty : TypeId} {pos : String} {aft : Array Edge} {g : Option (Nat × Bool)}
/-- 'x[:hi]' of an array behind a pointer -/
theorem rd_sliceArrHi {T E : TypeId} {x h : Operand} {b o m : Nat} {kh : IntKind} {j : Nat} (hx : ev σ x = some (.pointer (some ⟨b, o, none⟩))) (hh : ev σ h = some (.int kh j)) (hT : P.underlying T = some (.array m E)) (hj : j ≤ m) (hE : ∀ w, (sizeOf E).run P w = .ok 1 w) :
    Rd P σ φ ⟨dst, .slice T x none (some h) none, ty, pos, aft, g⟩ (.slice (some ⟨b, o, none⟩) j m) := fun a w hs _ => by
  have h1 : ((j : Int)).toNat = j := by omega
  simp [execOp, hs.ev hx, hs.ev hh, Instr.sliceAt, run_underlying hT, Instr.sureAddr, Instr.sliceBounds, Instr.sliceBound, asIntOf, hE, add_plain, hj, h1]
end
/-- a literal slice of n elements -/
theorem OwnR.lit {base b E k n : Nat} {cs : Array Value} (h : base ≤ b) (hs : cs.size = n * k) (hn : n ≤ maxLen) : OwnR base E k (.slice (some ⟨b, 0, none⟩) n n) [(b, .cells cs E (0, 0))] n cs.toList :=
  .inr ⟨b, n, cs, rfl, rfl, h, Nat.le_refl _, hn, hs, by rw [List.take_of_length_le (by simp [hs])], by simp [hs]⟩
end Go.Sx
