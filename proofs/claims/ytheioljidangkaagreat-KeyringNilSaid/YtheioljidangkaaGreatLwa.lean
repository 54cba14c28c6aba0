/- What the laws' helpers compute. No conditions. -/
import Derived.Test.YtheioljidangkaaGreatW16
import Derived.Test.YtheioljidangkaaGreatStc
namespace Go.Sx
open Go Go.RowKit
section
variable {κr : Option Nat} {P : Program} {n : Fm} {w0 : World} {S : List Nat} {σ σ' : Slots} {η η' π : Heap} {l : List Oper} {Q : Exit → Act → World → Prop} {t : Od} {e : Exit}
/-- ways that meet again -/
theorem od_join {A : Type} (φ : A → Prop) (σf : A → Slots) (ηf : A → Heap) (hrest : ∀ x, φ x → QE Q .normal n w0 S (σf x) (ηf x)) (k : (∀ x, φ x → QE Q .normal n w0 S (σf x) (ηf x)) → WSo κr P l π (fun a w => Q .normal a w) n w0 S σ η t) : WSo κr P l π (fun a w => Q .normal a w) n w0 S σ η t := k hrest
theorem qe_sub (h : QE Q e n w0 S σ' η') (hk : getAll σ (σ'.map Prod.fst) = σ'.map (fun p => some p.2)) [hs : SubH η' η] : QE Q e n w0 S σ η := fun a w hst => h a w (st_sub hst σ' hk)
end
end Go.Sx
namespace Go.Proofs.YtheioljidangkaaGreat
open Go Go.RowKit Go.Sx
set_option linter.unusedVariables false
set_option linter.unusedSimpArgs false
def pubV (n : UInt8) : Pub := ⟨((1 + n.toNat % 3 : Nat) : Int), ((au0.set 0 (n % 8)).set 1 7).set 2 (n % 8)⟩
instance (a c : UInt8) : Builds Tryz.prog 28 [(0, u8v a), (1, .int .u8 7), (2, u8v c)] (idC (((au0.set 0 a).set 1 7).set 2 c)) :=
  Builds.array (k := 1) inferInstance Tryz.underlying28 Tryz.sizeOf5 [(0, #[u8v a]), (1, #[u8v 7]), (2, #[u8v c])] rfl (by simp [idC_size]) (by
    rw [fillS, idC_set _ 0 (by omega), fillS, idC_set _ 1 (by omega), fillS, idC_set _ 2 (by omega), fillS])
def idM (n : UInt8) : Id := id0.set 31 (n % 16)
/-- a roll-over as a move describes it first -/
def rek0 (m : MV) : RK := ⟨idM m.id, ofF (pubV m.first), ((m.number.toNat % 3 : Nat) : Int), pubV m.pub, ((m.leaf.toNat % 2 ^ (1 + m.pub.toNat % 3) : Nat) : Int), pubV m.new⟩
def rek1 (m : MV) : RK := if m.number.toNat % 3 = 0 then { rek0 m with p := pubV m.first, leaf := ((m.leaf.toNat % 2 ^ (1 + m.first.toNat % 3) : Nat) : Int) } else rek0 m
def pick4 (a b c d : Int) (n : UInt8) : Int := if n.toNat % 4 = 0 then a else if n.toNat % 4 = 1 then b else if n.toNat % 4 = 2 then c else d
/-- the roll-over of a move -/
def rekR (m : MV) : RK :=
  if m.spoil = 1 then { rek1 m with n := pick4 (-1) 1000 999 1099511627776 m.leaf } else
  if m.spoil = 3 then { rek1 m with p := ⟨pick4 0 9 (-1) 8 m.leaf, (rek1 m).p.root⟩ } else
  if m.spoil = 4 then { rek1 m with q := ⟨pick4 0 9 (-1) 8 m.leaf, (rek1 m).q.root⟩ } else
  if m.spoil = 5 then { rek1 m with q := (rek1 m).p } else
  if m.spoil = 6 then { rek1 m with leaf := pick4 (-1) 8 2 4 m.leaf } else
  if m.spoil = 7 then { rek1 m with au := (rek1 m).au.set 3 ((rek1 m).au[3] ^^^ 1) } else rek1 m
def rekK (m : MV) : Int := if m.spoil = 0 then ((m.leaf.toNat % 7 : Nat) : Int) else 5
def rekN (m : MV) : Int := if m.spoil = 2 then ((m.leaf.toNat % 5 : Nat) : Int) else (rekR m).n + 1
def addM (own : List RK) (m : MV) : List RK := addO own (rekR m) (rekK m) (rekN m)
def buildF (ms : List MV) : List RK := ms.foldl addM []
theorem buildF_snoc (ms : List MV) (m : MV) : buildF (ms ++ [m]) = addM (buildF ms) m := by simp [buildF]
theorem addM_len (own : List RK) (m : MV) : (addM own m).length ≤ own.length + 1 := by
  unfold addM addO
  split <;> simp
theorem buildF_len (ms : List MV) : (buildF ms).length ≤ ms.length := by
  have key : ∀ (ms : List MV) (own : List RK), (ms.foldl addM own).length ≤ own.length + ms.length := by
    intro ms
    induction ms with
    | nil => intro own; simp
    | cons m ms ih =>
      intro own
      have h1 := ih (addM own m)
      have h2 := addM_len own m
      simp only [List.foldl_cons, List.length_cons]
      omega
  simpa [buildF] using key ms []
theorem addO_ok {own : List RK} {r : RK} {kind to : Int} (h : ∀ x ∈ own, okR x) : ∀ x ∈ addO own r kind to, okR x := by
  unfold addO
  split
  · rename_i he
    intro x hx
    rcases List.mem_append.1 hx with hx | hx
    · exact h x hx
    · rw [List.mem_singleton.1 hx]
      unfold addE at he
      split at he
      · omega
      · rename_i h0; exact errR_ok (Decidable.of_not_not h0)
  · exact h
theorem u8_rem (n : UInt8) (k : Nat) (hk : k < 256) : ((n.toNat : Nat) : Int).tmod ((k : Nat) : Int) = (((n % UInt8.ofNat k).toNat : Nat) : Int) := by
  rw [tmodN, UInt8.toNat_mod]
  simp only [UInt8.toNat_ofNat']
  rw [Nat.mod_eq_of_lt (a := k) (by omega)]
theorem at_mv {cur : Array Value} {o : Nat} {rows : List MV} {j : Nat} {r : MV} (hcur : ∀ i v, (rows.flatMap mvL)[i]? = some v → cur[o + i]? = some v) (hx : rows[j]? = some r) : AtM cur (o + j * 7) r := ⟨fun i hi => by rw [at_any mvL_len hcur hx i hi]; simp⟩
theorem xor8 (x y : UInt8) : bitsI .xor .u8 ((x.toNat : Nat) : Int) ((y.toNat : Nat) : Int) = some (((x ^^^ y).toNat : Nat) : Int) := by
  have h1 : ∀ z : UInt8, (BitVec.ofInt IntKind.u8.bits ((z.toNat : Nat) : Int)).toNat = z.toNat := fun z => by
    have := z.toNat_lt
    simp [IntKind.bits]
  have h2 : (x ^^^ y).toNat < 256 := (x ^^^ y).toNat_lt
  simp only [bitsI, BitVec.toNat_xor, h1, UInt8.toNat_xor] at h2 ⊢
  simp [IntKind.wrap, IntKind.bits, IntKind.signed]
  omega
theorem splice_in (A R : Array Value) (k : Nat) (v : Value) (hk : k < A.size) : splice (A ++ R) k #[v] = splice A k #[v] ++ R := by
  apply Array.ext'
  simp only [splice, Array.toList_append]
  rw [List.take_append_of_le_length (by simp; omega), List.drop_append_of_le_length (by simp; omega)]
  simp
theorem rk_set35 (r : RK) (z : UInt8) : SetAt (rkC r) 35 (u8v z) (rkC { r with au := r.au.set 3 z }) := ⟨by rw [rkC_size]; omega, by
  have h : splice (rkC r) 35 #[u8v z] = rkC { r with au := r.au.set 3 z } := by
    simp only [rkC]
    rw [sR _ _ _ 3 35 (by simp [idC_size]), splice_in _ _ _ _ (by simp [idC_size]), idC_set _ 3 (by omega)]
  rw [← h, splice]; rfl⟩
theorem rk_get35 (r : RK) : GetAt (rkC r) 35 (u8v r.au[3]) := ⟨by rw [show 35 = 32 + 3 from rfl, rk_a32 r 3 (by omega), idC_at _ 3 (by omega)]⟩
instance (x y z t : Int) : BuildsS Tryz.prog 88 4 [(0, I x), (1, I y), (2, I z), (3, I t)] 3 #[I x, I y, I z, I t] := BuildsS.four Tryz.underlying88 Tryz.sizeOf3 Tryz.zeroValue3 inferInstance inferInstance inferInstance inferInstance
theorem pick_at (a b c d : Int) (n : UInt8) : GetAt #[I a, I b, I c, I d] ((n % 4).toNat * 1) (I (pick4 a b c d n)) := ⟨by
  have h : (n % 4).toNat = n.toNat % 4 := by rw [UInt8.toNat_mod]; rfl
  rw [h, Nat.mul_one, pick4]
  have h4 : n.toNat % 4 = 0 ∨ n.toNat % 4 = 1 ∨ n.toNat % 4 = 2 ∨ n.toNat % 4 = 3 := by omega
  rcases h4 with e | e | e | e <;> simp [e]⟩
theorem u8_is {x : UInt8} {k : Nat} (hk : k < 256) (h : (x.toNat : Int) = (k : Nat)) : x = UInt8.ofNat k := by
  apply UInt8.toNat_inj.1
  simp only [UInt8.toNat_ofNat']
  omega
theorem u8_isnt {x : UInt8} {k : Nat} (hk : k < 256) (h : ¬ (x.toNat : Int) = (k : Nat)) : x ≠ UInt8.ofNat k := fun e => h (by
  subst e
  simp only [UInt8.toNat_ofNat']
  omega)
theorem shl_n {n : Nat} (h : n ≤ 8) : IntKind.i64.wrap (1 * 2 ^ min ((n : Nat) : Int).toNat IntKind.i64.bits) = ((2 ^ n : Nat) : Int) := by
  have : n = 0 ∨ n = 1 ∨ n = 2 ∨ n = 3 ∨ n = 4 ∨ n = 5 ∨ n = 6 ∨ n = 7 ∨ n = 8 := by omega
  rcases this with rfl | rfl | rfl | rfl | rfl | rfl | rfl | rfl | rfl <;> decide
end Go.Proofs.YtheioljidangkaaGreat
