/- A running digest: its cells. No conditions. -/
import Derived.Test.YtheioljidangkaaGreatDig
namespace Go.Proofs.YtheioljidangkaaGreat
open Go Go.RowKit Go.Sx
set_option linter.unusedVariables false
set_option linter.unusedSimpArgs false
def hashC (st : WV 8) (rest : Value) (n : Int) (b : Bool) : Array Value := wC st ++ (#[rest] ++ (#[I n] ++ (#[.bool b] ++ #[])))
theorem hashC_size (st : WV 8) (rest : Value) (n : Int) (b : Bool) : (hashC st rest n b).size = 11 := by simp [hashC, wC_size]
section
variable (st : WV 8) (rest : Value) (n : Int) (b : Bool)
theorem hash_a0 (j : Nat) (hj : j < 8) : (hashC st rest n b)[0 + j]? = (wC st)[j]? := by
  simp only [hashC]
  rw [subV _ _ _ (by simpa [wC_size] using hj)]
theorem hash_a8 : (hashC st rest n b)[8]? = some rest := by
  refine z0 ?_
  simp only [hashC]
  rw [skip _ _ 8 0 _ (by simp [wC_size]), subI]
theorem hash_a9 : (hashC st rest n b)[9]? = some (I n) := by
  refine z0 ?_
  simp only [hashC]
  rw [skip _ _ 9 1 _ (by simp [wC_size]), skip _ _ 1 0 _ (by simp), subI]
theorem hash_a10 : (hashC st rest n b)[10]? = some (.bool b) := by
  refine z0 ?_
  simp only [hashC]
  rw [skip _ _ 10 2 _ (by simp [wC_size]), skip _ _ 2 1 _ (by simp), skip _ _ 1 0 _ (by simp), subI]
instance : ReadsAt Tryz.prog 184 (hashC st rest n b) 0 (.agg (wC st)) := ReadsAt.agg (k := 8) (wC_size _) (fun j hj => hash_a0 st rest n b j hj)
instance : GetAt (hashC st rest n b) 8 rest := ⟨hash_a8 st rest n b⟩
instance : GetAt (hashC st rest n b) 9 (I n) := ⟨hash_a9 st rest n b⟩
instance : GetAt (hashC st rest n b) 10 (.bool b) := ⟨hash_a10 st rest n b⟩
instance : ReadsAt Tryz.prog 187 (hashC st rest n b) 0 (.agg (hashC st rest n b)) := ReadsAt.agg (k := 11) (hashC_size _ _ _ _) (fun j _ => by rw [Nat.zero_add])
theorem hash_s0 (z : WV 8) : splice (hashC st rest n b) 0 (wC z) = hashC z rest n b := by
  simp only [hashC]
  rw [sL _ _ _ (by simp [wC_size])]
theorem hash_s8 (z : Value) : splice (hashC st rest n b) 8 #[z] = hashC st z n b := by
  simp only [hashC]
  rw [sR _ _ _ 0 8 (by simp [wC_size]), sL _ _ _ (by simp)]
theorem hash_s9 (z : Int) : splice (hashC st rest n b) 9 #[I z] = hashC st rest z b := by
  simp only [hashC]
  rw [sR _ _ _ 1 9 (by simp [wC_size]), sR _ _ _ 0 1 (by simp), sL _ _ _ (by simp)]
theorem hash_s10 (z : Bool) : splice (hashC st rest n b) 10 #[.bool z] = hashC st rest n z := by
  simp only [hashC]
  rw [sR _ _ _ 2 10 (by simp [wC_size]), sR _ _ _ 1 2 (by simp), sR _ _ _ 0 1 (by simp), sL _ _ _ (by simp)]
instance (z : WV 8) : WritesAt Tryz.prog 184 (hashC st rest n b) 0 (.agg (wC z)) (hashC z rest n b) := WritesAt.of Tryz.sizeOf184 (wC_size _) (wC_one _) (by rw [hashC_size]; omega) (by
  have h := (hash_s0 st rest n b z).symm
  rw [h, splice, wC_size]; rfl)
theorem hash_set8 (z : Value) : SetAt (hashC st rest n b) 8 z (hashC st z n b) := ⟨by rw [hashC_size]; omega, (hash_s8 st rest n b z).symm⟩
instance (A : Option Addr) (m c : Nat) : SetAt (hashC st rest n b) 8 (.slice A m c) (hashC st (.slice A m c) n b) := hash_set8 st rest n b _
instance (z : Int) : SetAt (hashC st rest n b) 9 (I z) (hashC st rest z b) := ⟨by rw [hashC_size]; omega, (hash_s9 st rest n b z).symm⟩
end
theorem hash_one {st : WV 8} {rest : Value} {n : Int} {b : Bool} (h : rest.oneCell' = true) : ∀ u ∈ (hashC st rest n b).toList, u.oneCell' = true := by
  intro u hu
  simp only [hashC, Array.toList_append, List.mem_append] at hu
  rcases hu with hu | hu | hu | hu | hu
  · exact wC_one _ u hu
  · simp at hu; subst hu; exact h
  · simp at hu; subst hu; rfl
  · simp at hu; subst hu; rfl
  · simp at hu
instance (x y : WV 8) (r : Value) (A : Option Addr) (k c : Nat) (n m : Int) (b d : Bool) : WritesAt Tryz.prog 187 (hashC x r n b) 0 (.agg (hashC y (.slice A k c) m d)) (hashC y (.slice A k c) m d) := WritesAt.whole Tryz.sizeOf187 (hashC_size _ _ _ _) (hashC_size _ _ _ _) (hash_one rfl)
abbrev snil : Value := .slice none 0 0
instance : ZeroOf Tryz.prog 187 (hashC (w0 8) snil 0 false) := ⟨_, Tryz.zeroValue187, by simp only [hashC]; rw [wC0]; rfl⟩
theorem hash_fill (s : WV 8) : fillS (hashC (w0 8) snil 0 false) [(0, wC s), (10, #[.bool true])] = hashC s snil 0 true := by
  rw [fillS, hash_s0]; rw [fillS, hash_s10]; rfl
instance (s : WV 8) : Builds Tryz.prog 187 [(0, .agg (wC s)), (3, .bool true)] (hashC s snil 0 true) := Builds.struct inferInstance Tryz.underlying187 (by kernel_rfl) (#[(0, 8), (8, 1), (9, 1), (10, 1)] : Array (Nat × Nat)) (by kernel_rfl) _ (by simp [placed, Value.cells, wC_size]) (by simp [hashC_size, wC_size]) (hash_fill s)
/-! padding -/
theorem pad_app (bs : List UInt8) (z : Nat) : bs ++ padZ [] z = padZ bs z := by simp [padZ]
theorem padB_app (bs : List UInt8) : bs ++ padB [] = padB bs := by simp [padB, padZ]
theorem padB_nil : (padB []).length = 47 := by simp [padB, padZ, lenB]
theorem byL_app (a b : List UInt8) : byL a ++ byL b = byL (a ++ b) := by simp [byL]
/-! the digest's bytes by fours -/
theorem shr32_zero (x : UInt32) : shr32 x 0 = x := by
  apply UInt32.toNat_inj.1
  rw [shr32_toNat _ _ (by omega)]; simp
theorem dig_set4 (h : WV 8) (i k : Nat) (hi : i < 8) (hk : k < 4) : SetAt (idC (dig h (4 * i + k))) (4 * i + k) (.int .u8 (((shr32 (wg h i) (24 - 8 * k)).toUInt8.toNat : Nat) : Int)) (idC (dig h (4 * i + k + 1))) := by
  have e := id_setAt (dig h (4 * i + k)) (4 * i + k) (by omega) (byteOf h (4 * i + k))
  rw [dig_set _ _ (by omega)] at e
  have e2 : byteOf h (4 * i + k) = (shr32 (wg h i) (24 - 8 * k)).toUInt8 := by
    rw [byteOf, show (4 * i + k) / 4 = i by omega, show (4 * i + k) % 4 = k by omega]
  rw [e2] at e
  exact e
theorem dig_set40 (h : WV 8) (i : Nat) (hi : i < 8) : SetAt (idC (dig h (4 * i))) (4 * i) (.int .u8 (((shr32 (wg h i) 24).toUInt8.toNat : Nat) : Int)) (idC (dig h (4 * i + 1))) := dig_set4 h i 0 hi (by omega)
theorem dig_set43 (h : WV 8) (i : Nat) (hi : i < 8) : SetAt (idC (dig h (4 * i + 3))) (4 * i + 3) (.int .u8 (((wg h i).toUInt8.toNat : Nat) : Int)) (idC (dig h (4 * (i + 1)))) := by
  have e := dig_set4 h i 3 hi (by omega)
  rw [show 24 - 8 * 3 = 0 from rfl, shr32_zero, show 4 * i + 3 + 1 = 4 * (i + 1) by omega] at e
  exact e
theorem words_eta (s : WV 8) : wC #v[s[0], s[1], s[2], s[3], s[4], s[5], s[6], s[7]] = wC s := by
  congr 1
  apply Vector.ext
  intro i hi
  have h8 : i = 0 ∨ i = 1 ∨ i = 2 ∨ i = 3 ∨ i = 4 ∨ i = 5 ∨ i = 6 ∨ i = 7 := by omega
  rcases h8 with rfl | rfl | rfl | rfl | rfl | rfl | rfl | rfl <;> rfl
theorem digW_eq (bs : List UInt8) : plusF (procF kI (loadF (padB bs) 16) 64).2 kI = digW bs := sha_eq (padB bs)
instance (x : Id) : ReadsAt Tryz.prog 137 (idC x) 0 (.agg (idC (halfF x))) := ReadsAt.agg (k := 16) (idC_size _) (fun j hj => half_at x j hj)
end Go.Proofs.YtheioljidangkaaGreat
