/- The identities of the laws' keys differ: SHA-256 by numbers, evaluated. No conditions. -/
import Derived.Test.YtheioljidangkaaLwa
namespace Go.Proofs.Ytheioljidangkaa
open Go Go.RowKit Go.Sx
set_option linter.unusedVariables false
set_option linter.unusedSimpArgs false
/-- a value that is evaluated before one goes on -/
def frc {α : Type} (n : Nat) (k : Nat → α) : α := match n with
  | 0 => k 0
  | m + 1 => k (Nat.succ m)
theorem frc_eq {α : Type} (n : Nat) (k : Nat → α) : frc n k = k n := by cases n <;> rfl
def rN (x n : Nat) : Nat := Nat.lor (Nat.div x (Nat.pow 2 n)) (Nat.mod (Nat.mul x (Nat.pow 2 (Nat.sub 32 n))) 4294967296)
def adN (x y : Nat) : Nat := Nat.mod (Nat.add x y) 4294967296
theorem rN_eq (x : UInt32) (n : Nat) (h0 : 0 < n) (hn : n < 32) : (rotR x n).toNat = rN x.toNat n := by
  rw [rotR, UInt32.toNat_or, shr32_toNat _ _ hn, shl32_toNat _ _ (by omega)]; rfl
theorem adN_eq (x y : UInt32) : (x + y).toNat = adN x.toNat y.toNat := UInt32.toNat_add x y
theorem xoN_eq (x y : UInt32) : (x ^^^ y).toNat = Nat.xor x.toNat y.toNat := UInt32.toNat_xor x y
theorem anN_eq (x y : UInt32) : (x &&& y).toNat = Nat.land x.toNat y.toNat := UInt32.toNat_and x y
theorem shN_eq (x : UInt32) (n : Nat) (hn : n < 32) : (shr32 x n).toNat = Nat.div x.toNat (Nat.pow 2 n) := shr32_toNat x n hn
/-- a further word -/
def newN (x2 x7 x15 x16 : Nat) : Nat := adN (adN (adN (Nat.xor (Nat.xor (rN x2 17) (rN x2 19)) (Nat.div x2 (Nat.pow 2 10))) x7) (Nat.xor (Nat.xor (rN x15 7) (rN x15 18)) (Nat.div x15 (Nat.pow 2 3)))) x16
/-- the words, the last one first -/
def wsN : Nat → List Nat → List Nat
  | 0, l => l
  | n + 1, l => frc (newN (l.getD 1 0) (l.getD 6 0) (l.getD 14 0) (l.getD 15 0)) fun w => wsN n (w :: l)
def oneN (e f g h k w : Nat) : Nat := adN (adN (adN (adN h (Nat.xor (Nat.xor (rN e 6) (rN e 11)) (rN e 25))) (Nat.xor (Nat.land e f) (Nat.land (Nat.xor 4294967295 e) g))) k) w
def twoN (a b c : Nat) : Nat := adN (Nat.xor (Nat.xor (rN a 2) (rN a 13)) (rN a 22)) (Nat.xor (Nat.xor (Nat.land a b) (Nat.land a c)) (Nat.land b c))
/-- the rounds; the first word of the digest -/
def rdN : List Nat → List Nat → Nat → Nat → Nat → Nat → Nat → Nat → Nat → Nat → Nat
  | k :: ks, w :: ws, a, b, c, d, e, f, g, h => frc (oneN e f g h k w) fun one => frc (adN one (twoN a b c)) fun a' => frc (adN d one) fun e' => rdN ks ws a' a b c e' e f g
  | _, _, a, _, _, _, _, _, _, _ => adN 1779033703 a
/-- the words of a block so far, the last one first -/
def accW (bs : List UInt8) : Nat → List Nat
  | 0 => []
  | t + 1 => (Wf bs t).toNat :: accW bs t
theorem accW_get (bs : List UInt8) : ∀ (t j : Nat), j < t → (accW bs t).getD j 0 = (Wf bs (t - 1 - j)).toNat
  | 0, j, h => by omega
  | t + 1, 0, h => by simp [accW]
  | t + 1, j + 1, h => by
    have := accW_get bs t j (by omega)
    simp only [accW, List.getD_cons_succ, this]
    congr 2; omega
theorem new_eq (bs : List UInt8) (t : Nat) (h : 16 ≤ t) (h64 : t < 64) : (Wf bs t).toNat = newN ((accW bs t).getD 1 0) ((accW bs t).getD 6 0) ((accW bs t).getD 14 0) ((accW bs t).getD 15 0) := by
  rw [accW_get bs t 1 (by omega), accW_get bs t 6 (by omega), accW_get bs t 14 (by omega), accW_get bs t 15 (by omega), W_at bs h64, if_neg (by omega), sNew, W_of bs (n := t) (by omega) (by omega), W_of bs (n := t) (by omega) (by omega), W_of bs (n := t) (by omega) (by omega), W_of bs (n := t) (by omega) (by omega)]
  simp only [adN_eq, xoN_eq, rN_eq _ 17 (by omega) (by omega), rN_eq _ 19 (by omega) (by omega), rN_eq _ 7 (by omega) (by omega), rN_eq _ 18 (by omega) (by omega), shN_eq _ 10 (by omega), shN_eq _ 3 (by omega), newN]
  rw [show t - 1 - 1 = t - 2 by omega, show t - 1 - 6 = t - 7 by omega, show t - 1 - 14 = t - 15 by omega, show t - 1 - 15 = t - 16 by omega]
theorem wsN_eq (bs : List UInt8) : ∀ (n t : Nat), 16 ≤ t → t + n ≤ 64 → wsN n (accW bs t) = accW bs (t + n)
  | 0, t, _, _ => rfl
  | n + 1, t, h, h64 => by
    rw [wsN, frc_eq, ← new_eq bs t h (by omega)]
    have := wsN_eq bs n (t + 1) (by omega) (by omega)
    rw [accW] at this
    rw [this]
    congr 1; omega
theorem one_eq (v : WV 8) (k w : UInt32) : (v[7] + (rotR v[4] 6 ^^^ rotR v[4] 11 ^^^ rotR v[4] 25) + ((v[4] &&& v[5]) ^^^ (((4294967295 : UInt32) ^^^ v[4]) &&& v[6])) + k + w).toNat = oneN v[4].toNat v[5].toNat v[6].toNat v[7].toNat k.toNat w.toNat := by
  simp only [adN_eq, xoN_eq, anN_eq, rN_eq _ 6 (by omega) (by omega), rN_eq _ 11 (by omega) (by omega), rN_eq _ 25 (by omega) (by omega), oneN]
  rfl
theorem two_eq (v : WV 8) : ((rotR v[0] 2 ^^^ rotR v[0] 13 ^^^ rotR v[0] 22) + ((v[0] &&& v[1]) ^^^ (v[0] &&& v[2]) ^^^ (v[1] &&& v[2]))).toNat = twoN v[0].toNat v[1].toNat v[2].toNat := by
  simp only [adN_eq, xoN_eq, anN_eq, rN_eq _ 2 (by omega) (by omega), rN_eq _ 13 (by omega) (by omega), rN_eq _ 22 (by omega) (by omega), twoN]
/-- the words from a place on -/
def fromL (f : Nat → Nat) : Nat → Nat → List Nat
  | 0, _ => []
  | n + 1, t => f t :: fromL f n (t + 1)
theorem rd_eq (bs : List UInt8) : ∀ (n t : Nat), t + n = 64 →
    rdN (fromL (fun i => (wg kK i).toNat) n t) (fromL (fun i => (Wf bs i).toNat) n t) (refRounds bs t)[0].toNat (refRounds bs t)[1].toNat (refRounds bs t)[2].toNat (refRounds bs t)[3].toNat (refRounds bs t)[4].toNat (refRounds bs t)[5].toNat (refRounds bs t)[6].toNat (refRounds bs t)[7].toNat = adN 1779033703 (refRounds bs 64)[0].toNat
  | 0, t, h => by obtain rfl : t = 64 := (by omega); rfl
  | n + 1, t, h => by
    rw [fromL, fromL, rdN, frc_eq, frc_eq, frc_eq, ← rd_eq bs n (t + 1) (by omega)]
    have e : refRounds bs (t + 1) = roundF (refRounds bs t) (wg kK t) (Wf bs t) := rfl
    generalize refRounds bs t = v at e ⊢
    rw [e]
    have h0 : (roundF v (wg kK t) (Wf bs t))[0] = (v[7] + (rotR v[4] 6 ^^^ rotR v[4] 11 ^^^ rotR v[4] 25) + ((v[4] &&& v[5]) ^^^ (((4294967295 : UInt32) ^^^ v[4]) &&& v[6])) + wg kK t + Wf bs t) + ((rotR v[0] 2 ^^^ rotR v[0] 13 ^^^ rotR v[0] 22) + ((v[0] &&& v[1]) ^^^ (v[0] &&& v[2]) ^^^ (v[1] &&& v[2]))) := rfl
    have h4 : (roundF v (wg kK t) (Wf bs t))[4] = v[3] + (v[7] + (rotR v[4] 6 ^^^ rotR v[4] 11 ^^^ rotR v[4] 25) + ((v[4] &&& v[5]) ^^^ (((4294967295 : UInt32) ^^^ v[4]) &&& v[6])) + wg kK t + Wf bs t) := rfl
    have h1 : (roundF v (wg kK t) (Wf bs t))[1] = v[0] := rfl
    have h2 : (roundF v (wg kK t) (Wf bs t))[2] = v[1] := rfl
    have h3 : (roundF v (wg kK t) (Wf bs t))[3] = v[2] := rfl
    have h5 : (roundF v (wg kK t) (Wf bs t))[5] = v[4] := rfl
    have h6 : (roundF v (wg kK t) (Wf bs t))[6] = v[5] := rfl
    have h7 : (roundF v (wg kK t) (Wf bs t))[7] = v[6] := rfl
    rw [h0, h1, h2, h3, h4, h5, h6, h7, adN_eq _ ((rotR v[0] 2 ^^^ rotR v[0] 13 ^^^ rotR v[0] 22) + _), adN_eq v[3], one_eq, two_eq]
/-- the first word of a digest, by numbers -/
theorem word_eq (bs : List UInt8) : (digW bs)[0].toNat = rdN (fromL (fun i => (wg kK i).toNat) 64 0) (fromL (fun i => (Wf (padB bs) i).toNat) 64 0) 1779033703 3144134277 1013904242 2773480762 1359893119 2600822924 528734635 1541459225 := by
  have e : (digW bs)[0] = kI[0] + (refRounds (padB bs) 64)[0] := rfl
  rw [e, adN_eq]
  exact (rd_eq (padB bs) 64 0 (by omega)).symm
theorem accW_rev (bs : List UInt8) (t : Nat) : (accW bs t).reverse = fromL (fun i => (Wf bs i).toNat) t 0 := by
  have key : ∀ (n t : Nat), fromL (fun i => (Wf bs i).toNat) (n + 1) t = fromL (fun i => (Wf bs i).toNat) n t ++ [(Wf bs (t + n)).toNat] := by
    intro n
    induction n with
    | zero => intro t; rfl
    | succ n ih =>
      intro t
      rw [fromL, ih (t + 1), fromL]
      simp only [List.cons_append]
      rw [show t + 1 + n = t + (n + 1) by omega]
  induction t with
  | zero => rfl
  | succ t ih => rw [accW, List.reverse_cons, ih, key t 0, Nat.zero_add]
def KN : List Nat := [1116352408, 1899447441, 3049323471, 3921009573, 961987163, 1508970993, 2453635748, 2870763221, 3624381080, 310598401, 607225278, 1426881987, 1925078388, 2162078206, 2614888103, 3248222580, 3835390401, 4022224774, 264347078, 604807628, 770255983, 1249150122, 1555081692, 1996064986, 2554220882, 2821834349, 2952996808, 3210313671, 3336571891, 3584528711, 113926993, 338241895, 666307205, 773529912, 1294757372, 1396182291, 1695183700, 1986661051, 2177026350, 2456956037, 2730485921, 2820302411, 3259730800, 3345764771, 3516065817, 3600352804, 4094571909, 275423344, 430227734, 506948616, 659060556, 883997877, 958139571, 1322822218, 1537002063, 1747873779, 1955562222, 2024104815, 2227730452, 2361852424, 2428436474, 2756734187, 3204031479, 3329325298]
set_option maxRecDepth 100000 in
theorem KN_eq : fromL (fun i => (wg kK i).toNat) 64 0 = KN := by decide +kernel
def rootC (c : UInt8) : Au := ((au0.set 0 c).set 1 7).set 2 c
/-- the first sixteen words, the last one first -/
def startN (hb c : UInt8) : List Nat := [136, 0, 0, 0, 0, 0, 0, 0, 0, 0, 0, 8388608, 0, 0, 0, (w4 hb c 7 c).toNat]
theorem pub_bytes (hb c : UInt8) : padB (pubB hb (rootC c)) = [hb, c, 7, c, 0, 0, 0, 0, 0, 0, 0, 0, 0, 0, 0, 0, 0, 128] ++ List.replicate 38 0 ++ [0, 0, 0, 0, 0, 0, 0, 136] := rfl
theorem w_first (bs : List UInt8) (i : Nat) (hi : i < 16) : Wf bs i = w4at bs i := by rw [W_at bs (by omega), if_pos hi]
theorem start_eq (hb c : UInt8) : accW (padB (pubB hb (rootC c))) 16 = startN hb c := by
  have h0 : w4 0 0 0 0 = 0 := by decide
  have h4 : w4 0 128 0 0 = 8388608 := by decide
  have h15 : w4 0 0 0 136 = 136 := by decide
  have hz : ∀ i, (i = 1 ∨ i = 2 ∨ i = 3 ∨ i = 5 ∨ i = 6 ∨ i = 7 ∨ i = 8 ∨ i = 9 ∨ i = 10 ∨ i = 11 ∨ i = 12 ∨ i = 13 ∨ i = 14) → Wf (padB (pubB hb (rootC c))) i = 0 := fun i hi => by
    rw [w_first _ _ (by omega), pub_bytes, ← h0]
    rcases hi with rfl | rfl | rfl | rfl | rfl | rfl | rfl | rfl | rfl | rfl | rfl | rfl | rfl <;> rfl
  have e0 : Wf (padB (pubB hb (rootC c))) 0 = w4 hb c 7 c := by rw [w_first _ _ (by omega), pub_bytes]; rfl
  have e4 : Wf (padB (pubB hb (rootC c))) 4 = 8388608 := by rw [w_first _ _ (by omega), pub_bytes, ← h4]; rfl
  have e15 : Wf (padB (pubB hb (rootC c))) 15 = 136 := by rw [w_first _ _ (by omega), pub_bytes, ← h15]; rfl
  simp only [accW, e0, e4, e15, hz 1 (by omega), hz 2 (by omega), hz 3 (by omega), hz 5 (by omega), hz 6 (by omega), hz 7 (by omega), hz 8 (by omega), hz 9 (by omega), hz 10 (by omega), hz 11 (by omega), hz 12 (by omega), hz 13 (by omega), hz 14 (by omega)]
  rfl
def fastW (hb c : UInt8) : Nat := rdN KN (wsN 48 (startN hb c)).reverse 1779033703 3144134277 1013904242 2773480762 1359893119 2600822924 528734635 1541459225
theorem fast_eq (hb c : UInt8) : (digW (pubB hb (rootC c)))[0].toNat = fastW hb c := by
  rw [word_eq, KN_eq, ← accW_rev, fastW, ← start_eq, wsN_eq _ 48 16 (by omega) (by omega)]
def allDiff : List (UInt8 × UInt8) → List Nat → Bool
  | [], _ => true
  | x :: r, acc => frc (fastW x.1 x.2) fun v => bif acc.any (fun y => Nat.beq y v) then false else allDiff r (v :: acc)
theorem diff_of : ∀ (l : List (UInt8 × UInt8)) (acc : List Nat), allDiff l acc = true → (∀ x ∈ l, fastW x.1 x.2 ∉ acc) ∧ ∀ x ∈ l, ∀ y ∈ l, fastW x.1 x.2 = fastW y.1 y.2 → x = y
  | [], acc, _ => ⟨by simp, by simp⟩
  | x :: r, acc, h => by
    rw [allDiff, frc_eq] at h
    cases hb : acc.any (fun y => Nat.beq y (fastW x.1 x.2)) with
    | true => rw [hb] at h; simp at h
    | false =>
      rw [hb] at h
      obtain ⟨h1, h2⟩ := diff_of r _ (by simpa using h)
      have hx : fastW x.1 x.2 ∉ acc := fun hm => by
        rw [List.any_eq_false] at hb
        exact hb _ hm (by simp)
      refine ⟨fun y hy => ?_, fun y hy z hz e => ?_⟩
      · rcases List.mem_cons.1 hy with rfl | hy
        · exact hx
        · exact fun hm => h1 y hy (List.mem_cons_of_mem _ hm)
      · rcases List.mem_cons.1 hy with hy' | hy'
        · rcases List.mem_cons.1 hz with hz' | hz'
          · rw [hy', hz']
          · exact absurd (by rw [← e, hy']; simp) (h1 z hz')
        · rcases List.mem_cons.1 hz with hz' | hz'
          · exact absurd (by rw [e, hz']; simp) (h1 y hy')
          · exact h2 y hy' z hz' e
def keyL : List (UInt8 × UInt8) := [(1, 0), (1, 1), (1, 2), (1, 3), (1, 4), (1, 5), (1, 6), (1, 7), (2, 0), (2, 1), (2, 2), (2, 3), (2, 4), (2, 5), (2, 6), (2, 7), (3, 0), (3, 1), (3, 2), (3, 3), (3, 4), (3, 5), (3, 6), (3, 7), (8, 0), (8, 1), (8, 2), (8, 3), (8, 4), (8, 5), (8, 6), (8, 7)]
set_option maxRecDepth 100000 in
theorem keys_diff : allDiff keyL [] = true := by decide +kernel
/-- the keys that the laws make, and are fine -/
def isKey (p : Pub) : Prop := ∃ hb c : UInt8, (hb, c) ∈ keyL ∧ p = ⟨((hb.toNat : Nat) : Int), rootC c⟩
theorem hB_nat (b : UInt8) : hB ((b.toNat : Nat) : Int) = b := by
  have h1 : IntKind.u8.wrap ((b.toNat : Nat) : Int) = ((b.toNat : Nat) : Int) := by
    have := b.toNat_lt
    simp [IntKind.wrap, IntKind.bits, IntKind.signed]
    omega
  rw [hB, h1]
  apply UInt8.toNat_inj.1
  simp
theorem byte_at (h : WV 8) (j : Nat) (hj : j < 4) : (halfF (dig h 32))[j] = (shr32 h[0] (24 - 8 * j)).toUInt8 := by
  simp only [halfF, dig, Vector.getElem_ofFn, byteOf]
  rw [if_pos (by omega), show j / 4 = 0 by omega, show j % 4 = j by omega, wg_at h (by omega)]
theorem word_of {x y : UInt32} (h : ∀ j, j < 4 → (shr32 x (24 - 8 * j)).toUInt8 = (shr32 y (24 - 8 * j)).toUInt8) : x.toNat = y.toNat := by
  have key : ∀ j, j < 4 → x.toNat / 2 ^ (24 - 8 * j) % 256 = y.toNat / 2 ^ (24 - 8 * j) % 256 := fun j hj => by
    have := congrArg UInt8.toNat (h j hj)
    simpa [shr32_toNat _ _ (show 24 - 8 * j < 32 by omega)] using this
  have h0 := key 0 (by omega)
  have h1 := key 1 (by omega)
  have h2 := key 2 (by omega)
  have h3 := key 3 (by omega)
  have hx := x.toNat_lt
  have hy := y.toNat_lt
  simp at h0 h1 h2 h3
  omega
/-- different keys have different identities -/
theorem of_inj {p q : Pub} (hp : isKey p) (hq : isKey q) (h : ofF p = ofF q) : p = q := by
  obtain ⟨hb, c, hm, rfl⟩ := hp
  obtain ⟨hb', c', hm', rfl⟩ := hq
  simp only [ofF, hB_nat] at h
  have hw : fastW hb c = fastW hb' c' := by
    rw [← fast_eq, ← fast_eq]
    refine word_of fun j hj => ?_
    have h1 := congrArg (fun v : Au => v[j]) h
    rw [digF, digF] at h1
    rw [← byte_at _ j hj, ← byte_at _ j hj]
    exact h1
  have := (diff_of keyL [] keys_diff).2 _ hm _ hm' hw
  simp only [Prod.mk.injEq] at this
  rw [this.1, this.2]
theorem key_mem {h c : Nat} (hh : h = 1 ∨ h = 2 ∨ h = 3 ∨ h = 8) (hc : c < 8) : (UInt8.ofNat h, UInt8.ofNat c) ∈ keyL := by
  have : c = 0 ∨ c = 1 ∨ c = 2 ∨ c = 3 ∨ c = 4 ∨ c = 5 ∨ c = 6 ∨ c = 7 := by omega
  rcases hh with rfl | rfl | rfl | rfl <;> rcases this with rfl | rfl | rfl | rfl | rfl | rfl | rfl | rfl <;> decide
theorem mod8 (n : UInt8) : n % 8 = UInt8.ofNat (n.toNat % 8) := by
  apply UInt8.toNat_inj.1
  rw [UInt8.toNat_mod]
  simp only [UInt8.toNat_ofNat']
  show n.toNat % 8 = _
  omega
theorem key_of {h : Nat} (n : UInt8) (hh : h = 1 ∨ h = 2 ∨ h = 3 ∨ h = 8) : isKey ⟨((h : Nat) : Int), (pubV n).root⟩ := by
  refine ⟨UInt8.ofNat h, UInt8.ofNat (n.toNat % 8), key_mem hh (Nat.mod_lt _ (by omega)), ?_⟩
  have e : (UInt8.ofNat h).toNat = h := by simp only [UInt8.toNat_ofNat']; omega
  rw [e, ← mod8]; rfl
theorem key_pub (n : UInt8) : isKey (pubV n) := key_of (h := 1 + n.toNat % 3) n (by omega)
end Go.Proofs.Ytheioljidangkaa
