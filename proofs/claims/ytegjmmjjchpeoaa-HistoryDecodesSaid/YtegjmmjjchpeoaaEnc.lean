/- The encoding of entries as plain functions on bytes, both ways. No conditions: plain lemmas. -/
import Derived.Test.YtegjmmjjchpeoaaRel
namespace Go.Proofs.Ytegjmmjjchpeoaa
open Go Go.RowKit Go.Sx
def b4 (n : Int) : List UInt8 := [UInt8.ofNat (n.toNat / 16777216), UInt8.ofNat (n.toNat / 65536), UInt8.ofNat (n.toNat / 256), UInt8.ofNat n.toNat]
def byteAt (b : List UInt8) (o : Nat) : Nat := (b.getD o 0).toNat
def n4 (b : List UInt8) (o : Nat) : Int := ((byteAt b o * 16777216 + byteAt b (o + 1) * 65536 + byteAt b (o + 2) * 256 + byteAt b (o + 3) : Nat) : Int)
theorem b4_len (n : Int) : (b4 n).length = 4 := rfl
def flagE (x : Ent) : UInt8 := UInt8.ofNat (x.st.toNat + if x.perm then 2 else 0)
def encE (x : Ent) : List UInt8 := x.id.toList ++ (b4 x.arr ++ (b4 x.date ++ [flagE x]))
def encB (rows : List Ent) (cut : Int) : List UInt8 := b4 cut ++ rows.flatMap encE
theorem encE_len (x : Ent) : (encE x).length = 41 := by simp [encE, b4_len]
theorem encB_len (rows : List Ent) (cut : Int) : (encB rows cut).length = 4 + 41 * rows.length := by
  simp only [encB, List.length_append, b4_len]
  congr 1
  induction rows with
  | nil => simp
  | cons x r ih => rw [List.flatMap_cons, List.length_append, encE_len, ih, List.length_cons]; omega
def idAt (b : List UInt8) (o : Nat) : Id := Vector.ofFn fun i : Fin 32 => b.getD (o + i.val) 0
def entAt (b : List UInt8) (o : Nat) : Ent := ⟨idAt b o, n4 b (o + 32), n4 b (o + 36), ((byteAt b (o + 40) % 2 : Nat) : Int), decide (byteAt b (o + 40) / 2 % 2 = 1)⟩
theorem getD_drop (b : List UInt8) (o k : Nat) : (b.drop o).getD k 0 = b.getD (o + k) 0 := by simp [List.getD_eq_getElem?_getD, List.getElem?_drop]
theorem byteAt_drop (b : List UInt8) (o k : Nat) : byteAt (b.drop o) k = byteAt b (o + k) := by simp only [byteAt, getD_drop]
theorem n4_drop (b : List UInt8) (o k : Nat) : n4 (b.drop o) k = n4 b (o + k) := by simp only [n4, byteAt_drop, Nat.add_assoc]
theorem entAt_drop (b : List UInt8) (o : Nat) : entAt (b.drop o) 0 = entAt b o := by
  simp only [entAt, n4_drop, byteAt_drop, idAt, getD_drop, Nat.zero_add]
theorem byteAt_lt (b : List UInt8) (o : Nat) : byteAt b o < 256 := (b.getD o 0).toNat_lt
theorem ofNat_byteAt (b : List UInt8) (o : Nat) : UInt8.ofNat (byteAt b o) = b.getD o 0 := by simp [byteAt]
theorem ofNat_mod (n : Nat) : UInt8.ofNat n = UInt8.ofNat (n % 256) := by
  apply UInt8.toNat_inj.1; simp
/-- four bytes read and written -/
theorem b4_n4 (b : List UInt8) (o : Nat) : b4 (n4 b o) = [b.getD o 0, b.getD (o + 1) 0, b.getD (o + 2) 0, b.getD (o + 3) 0] := by
  have h0 := byteAt_lt b o; have h1 := byteAt_lt b (o + 1); have h2 := byteAt_lt b (o + 2); have h3 := byteAt_lt b (o + 3)
  simp only [b4, n4, Int.toNat_natCast]
  rw [ofNat_mod (_ / 16777216), ofNat_mod (_ / 65536), ofNat_mod (_ / 256), ofNat_mod (_ + byteAt b (o + 3))]
  rw [show (byteAt b o * 16777216 + byteAt b (o + 1) * 65536 + byteAt b (o + 2) * 256 + byteAt b (o + 3)) / 16777216 % 256 = byteAt b o by omega,
    show (byteAt b o * 16777216 + byteAt b (o + 1) * 65536 + byteAt b (o + 2) * 256 + byteAt b (o + 3)) / 65536 % 256 = byteAt b (o + 1) by omega,
    show (byteAt b o * 16777216 + byteAt b (o + 1) * 65536 + byteAt b (o + 2) * 256 + byteAt b (o + 3)) / 256 % 256 = byteAt b (o + 2) by omega,
    show (byteAt b o * 16777216 + byteAt b (o + 1) * 65536 + byteAt b (o + 2) * 256 + byteAt b (o + 3)) % 256 = byteAt b (o + 3) by omega]
  simp only [ofNat_byteAt]
theorem n4_b4 (n : Int) (h : 0 ≤ n ∧ n < 4294967296) (r : List UInt8) : n4 (b4 n ++ r) 0 = n := by
  obtain ⟨k, rfl⟩ := Int.eq_ofNat_of_zero_le h.1
  have hk : k < 4294967296 := by omega
  simp only [n4, byteAt, b4, Int.toNat_natCast, List.cons_append, List.getD_cons_zero, List.getD_cons_succ, Nat.zero_add, UInt8.toNat_ofNat']
  omega
theorem take4 (b : List UInt8) (o : Nat) (h : o + 4 ≤ b.length) : [b.getD o 0, b.getD (o + 1) 0, b.getD (o + 2) 0, b.getD (o + 3) 0] = (b.drop o).take 4 := by
  apply List.ext_getElem?
  intro i
  rw [List.getElem?_take, List.getElem?_drop]
  match i with
  | 0 => simp [List.getD_eq_getElem?_getD, show o < b.length by omega]
  | 1 => simp [List.getD_eq_getElem?_getD, show o + 1 < b.length by omega]
  | 2 => simp [List.getD_eq_getElem?_getD, show o + 2 < b.length by omega]
  | 3 => simp [List.getD_eq_getElem?_getD, show o + 3 < b.length by omega]
  | k + 4 => rw [if_neg (by omega)]; simp
theorem idAt_list (b : List UInt8) (o : Nat) (h : o + 32 ≤ b.length) : (idAt b o).toList = (b.drop o).take 32 := by
  apply List.ext_getElem?
  intro i
  rw [List.getElem?_take, List.getElem?_drop]
  by_cases hi : i < 32
  · rw [if_pos hi]
    rw [List.getElem?_eq_getElem (by simp; omega), List.getElem?_eq_getElem (by omega)]
    simp [idAt, List.getD_eq_getElem?_getD, show o + i < b.length by omega]
  · rw [if_neg hi, List.getElem?_eq_none (by simp; omega)]
theorem flag_entAt (b : List UInt8) (o : Nat) (h : byteAt b (o + 40) ≤ 3) : flagE (entAt b o) = b.getD (o + 40) 0 := by
  have e : (entAt b o).st.toNat + (if (entAt b o).perm then 2 else 0) = byteAt b (o + 40) := by
    simp only [entAt, Int.toNat_natCast, decide_eq_true_eq]
    split <;> omega
  rw [flagE, e, ofNat_byteAt]
theorem take_split (b : List UInt8) (m n : Nat) : b.take m ++ (b.drop m).take n = b.take (m + n) := by rw [List.take_add]
theorem flat_dropG {α β : Type} {enc : α → List β} {k : Nat} (hk : ∀ x, (enc x).length = k) : ∀ (xs : List α) (j : Nat), (xs.flatMap enc).drop (j * k) = (xs.drop j).flatMap enc
  | [], j => by simp
  | y :: r, 0 => by simp
  | y :: r, j + 1 => by
    rw [List.flatMap_cons, List.drop_succ_cons, List.drop_append, hk, ← flat_dropG hk r j]
    rw [List.drop_eq_nil_of_le (by rw [hk, Nat.succ_mul]; omega), List.nil_append]
    congr 1
    rw [Nat.succ_mul]; omega
theorem encE_entAt (b : List UInt8) (o : Nat) (h : o + 41 ≤ b.length) (hl : byteAt b (o + 40) ≤ 3) : encE (entAt b o) = (b.drop o).take 41 := by
  have h1 : (entAt b o).id.toList = (b.drop o).take 32 := idAt_list b o (by omega)
  have h2 : b4 (entAt b o).arr = ((b.drop o).drop 32).take 4 := by rw [List.drop_drop, ← take4 b (o + 32) (by omega)]; exact b4_n4 b (o + 32)
  have h3 : b4 (entAt b o).date = ((b.drop o).drop 36).take 4 := by rw [List.drop_drop, ← take4 b (o + 36) (by omega)]; exact b4_n4 b (o + 36)
  have h4 : [flagE (entAt b o)] = ((b.drop o).drop 40).take 1 := by
    rw [flag_entAt b o hl, List.drop_drop]
    rw [List.drop_eq_getElem_cons (by omega), List.take_succ_cons, List.take_zero]
    simp [List.getD_eq_getElem?_getD, show o + 40 < b.length by omega]
  rw [encE, h1, h2, h3, h4, ← List.append_assoc, ← List.append_assoc, take_split, take_split, take_split]
theorem entAt_encE (x : Ent) (hx : checkE x = 0) (r : List UInt8) : entAt (encE x ++ r) 0 = x := by
  have hm : minuteB x.arr = true ∧ minuteB x.date = true ∧ (x.st = 0 ∨ x.st = 1) := by
    unfold checkE at hx
    split at hx
    · rename_i h; split at hx
      · rename_i h2; exact ⟨h.1, h.2, h2⟩
      · cases hx
    · cases hx
  have ha := minuteB_bounds hm.1
  have hd := minuteB_bounds hm.2.1
  have e1 : idAt (encE x ++ r) 0 = x.id := by
    apply Vector.ext
    intro i hi
    have hi2 : i < x.id.toList.length := by simpa using hi
    simp only [idAt, encE, Vector.getElem_ofFn, Nat.zero_add, List.append_assoc]
    rw [List.getD_eq_getElem?_getD, List.getElem?_append_left hi2, List.getElem?_eq_getElem hi2]
    simp
  have dr : ∀ k, (encE x ++ r).drop (32 + k) = (b4 x.arr ++ (b4 x.date ++ [flagE x]) ++ r).drop k := fun k => by
    rw [← List.drop_drop, encE, List.append_assoc, List.drop_left' (by simp)]
  have e2 : n4 (encE x ++ r) 32 = x.arr := by
    rw [show n4 (encE x ++ r) 32 = n4 ((encE x ++ r).drop (32 + 0)) 0 by rw [n4_drop], dr, List.drop_zero, List.append_assoc]
    exact n4_b4 _ ⟨ha.1, by omega⟩ _
  have e3 : n4 (encE x ++ r) 36 = x.date := by
    rw [show n4 (encE x ++ r) 36 = n4 ((encE x ++ r).drop (32 + 4)) 0 by rw [n4_drop], dr, List.append_assoc, List.drop_left' (b4_len _), List.append_assoc]
    exact n4_b4 _ ⟨hd.1, by omega⟩ _
  have e4 : byteAt (encE x ++ r) 40 = x.st.toNat + (if x.perm then 2 else 0) := by
    rw [show byteAt (encE x ++ r) 40 = byteAt ((encE x ++ r).drop (32 + 8)) 0 by rw [byteAt_drop], dr]
    have : (b4 x.arr ++ (b4 x.date ++ [flagE x]) ++ r).drop 8 = flagE x :: r := by simp [b4]
    rw [this]
    simp only [byteAt, List.getD_cons_zero, flagE, UInt8.toNat_ofNat']
    rcases hm.2.2 with h | h <;> rw [h] <;> cases x.perm <;> rfl
  obtain ⟨id, arr, date, st, perm⟩ := x
  simp only [entAt, Nat.zero_add, e1, e2, e3, e4, Ent.mk.injEq, true_and]
  rcases hm.2.2 with h | h <;> simp only at h <;> subst h <;> cases perm <;> simp
/-! which bytes are encodings -/
/-- the k-th entry -/
abbrev entB (b : List UInt8) (k : Nat) : Ent := entAt b (4 + 41 * k)
def rowsB (b : List UInt8) (k : Nat) : List Ent := (List.range k).map (entB b)
theorem rowsB_succ (b : List UInt8) (k : Nat) : rowsB b (k + 1) = rowsB b k ++ [entB b k] := by simp [rowsB, List.range_succ]
theorem rowsB_len (b : List UInt8) (k : Nat) : (rowsB b k).length = k := by simp [rowsB]
def lastOK (b : List UInt8) (k : Nat) : Prop := byteAt b (4 + 41 * k + 40) ≤ 3 ∧ checkE (entB b k) = 0
def nextOK (b : List UInt8) (k : Nat) : Prop := k = 0 ∨ idLt (entB b (k - 1)).id (entB b k).id
def upto (b : List UInt8) (k : Nat) : Prop := ∀ i, i < k → lastOK b i ∧ nextOK b i
def headOK (b : List UInt8) : Prop := 4 ≤ b.length ∧ b.length % 41 = 4 ∧ minuteB (n4 b 0) = true
def cnt (b : List UInt8) : Nat := (b.length - 4) / 41
def decOK (b : List UInt8) : Prop := headOK b ∧ upto b (cnt b)
theorem upto_srt {b : List UInt8} : ∀ {k : Nat}, upto b k → (rowsB b k).Pairwise (fun x y => idLt x.id y.id)
  | 0, _ => by simp [rowsB]
  | k + 1, h => by
    have ih := upto_srt (k := k) fun i hi => h i (by omega)
    rw [rowsB_succ, List.pairwise_append]
    refine ⟨ih, by simp, fun x hx y hy => ?_⟩
    simp only [List.mem_singleton] at hy
    subst hy
    rcases (h k (by omega)).2 with h0 | h1
    · subst h0; simp [rowsB] at hx
    · obtain ⟨i, hi, rfl⟩ := List.mem_map.1 hx
      have hi' : i < k := List.mem_range.1 hi
      by_cases hik : i = k - 1
      · subst hik; exact h1
      · have hj : k - 1 < (rowsB b k).length := by rw [rowsB_len]; omega
        have := (List.pairwise_iff_getElem.1 ih) i (k - 1) (by rw [rowsB_len]; omega) hj (by omega)
        simp only [rowsB, List.getElem_map, List.getElem_range] at this
        exact idLt_trans this h1
theorem upto_chk {b : List UInt8} {k : Nat} (h : upto b k) : ∀ y ∈ rowsB b k, checkE y = 0 := fun y hy => by
  obtain ⟨i, hi, rfl⟩ := List.mem_map.1 hy
  exact (h i (List.mem_range.1 hi)).1.2
/-- what was read is written again -/
theorem enc_dec {b : List UInt8} (h : decOK b) : encB (rowsB b (cnt b)) (n4 b 0) = b := by
  obtain ⟨⟨h4, hm, _⟩, hu⟩ := h
  have key : ∀ k, k ≤ cnt b → (rowsB b k).flatMap encE = (b.drop 4).take (41 * k) := by
    intro k
    induction k with
    | zero => intro _; simp [rowsB]
    | succ k ih =>
      intro hk
      have hb : 4 + 41 * k + 41 ≤ b.length := by unfold cnt at hk; omega
      rw [rowsB_succ, List.flatMap_append, ih (by omega), List.flatMap_cons, List.flatMap_nil, List.append_nil, encE_entAt b _ hb (hu k (by omega)).1.1]
      rw [show b.drop (4 + 41 * k) = (b.drop 4).drop (41 * k) by rw [List.drop_drop], take_split]
      rfl
  rw [encB, key _ (Nat.le_refl _), b4_n4, take4 b 0 (by omega), List.drop_zero]
  rw [List.take_of_length_le (l := b.drop 4) (by rw [List.length_drop]; unfold cnt; omega), List.take_append_drop]
/-- what was written is read again -/
theorem dec_enc {rows : List Ent} {cut : Int} (hc : 0 ≤ cut ∧ cut ≤ 105190559) (hs : rows.Pairwise (fun x y => idLt x.id y.id)) (hk : ∀ y ∈ rows, checkE y = 0) :
    decOK (encB rows cut) ∧ rowsB (encB rows cut) (cnt (encB rows cut)) = rows ∧ n4 (encB rows cut) 0 = cut := by
  have hn : n4 (encB rows cut) 0 = cut := n4_b4 cut ⟨hc.1, by omega⟩ _
  have hcnt : cnt (encB rows cut) = rows.length := by unfold cnt; rw [encB_len]; omega
  have hdrop : ∀ k, (encB rows cut).drop (4 + 41 * k) = (rows.drop k).flatMap encE := fun k => by
    rw [← List.drop_drop, encB, List.drop_left' (b4_len _), Nat.mul_comm]
    exact flat_dropG encE_len rows k
  have hat : ∀ k x, rows[k]? = some x → entB (encB rows cut) k = x ∧ byteAt (encB rows cut) (4 + 41 * k + 40) ≤ 3 := fun k x hx => by
    have hd := hdrop k
    rw [drop_at hx, List.flatMap_cons] at hd
    have hxk := hk x (List.mem_of_getElem? hx)
    have e : entB (encB rows cut) k = x := by rw [entB, ← entAt_drop, hd]; exact entAt_encE x hxk _
    refine ⟨e, ?_⟩
    rw [← byteAt_drop, hd]
    have hb : byteAt (encE x ++ List.flatMap encE (List.drop (k + 1) rows)) 40 = (flagE x).toNat := by
      have : (encE x ++ List.flatMap encE (List.drop (k + 1) rows))[40]? = some (flagE x) := by
        rw [List.getElem?_append_left (by rw [encE_len]; omega), encE, List.getElem?_append_right (by simp)]
        simp [b4]
      simp [byteAt, List.getD_eq_getElem?_getD, this]
    rw [hb]
    have hst : x.st = 0 ∨ x.st = 1 := by
      unfold checkE at hxk
      split at hxk
      · split at hxk
        · assumption
        · cases hxk
      · cases hxk
    rcases hst with h | h <;> cases hp : x.perm <;> simp [flagE, h, hp]
  have hrows : rowsB (encB rows cut) rows.length = rows := by
    apply List.ext_getElem?
    intro i
    by_cases hi : i < rows.length
    · simp only [rowsB, List.getElem?_map, List.getElem?_range hi, Option.map_some]
      rw [(hat i rows[i] (List.getElem?_eq_getElem hi)).1, List.getElem?_eq_getElem hi]
    · rw [List.getElem?_eq_none (by rw [rowsB_len]; omega), List.getElem?_eq_none (by omega)]
  refine ⟨⟨⟨by rw [encB_len]; omega, by rw [encB_len]; omega, by rw [hn]; simp [minuteB, hc]⟩, fun i hi => ?_⟩, by rw [hcnt]; exact hrows, hn⟩
  rw [hcnt] at hi
  obtain ⟨h1, h2⟩ := hat i rows[i] (List.getElem?_eq_getElem hi)
  refine ⟨⟨h2, by rw [h1]; exact hk _ (List.getElem_mem hi)⟩, ?_⟩
  rcases Nat.eq_zero_or_pos i with h0 | h0
  · exact .inl h0
  · refine .inr ?_
    rw [h1, (hat (i - 1) rows[i - 1] (List.getElem?_eq_getElem (by omega))).1]
    exact (List.pairwise_iff_getElem.1 hs) (i - 1) i (by omega) hi (by omega)
end Go.Proofs.Ytegjmmjjchpeoaa
