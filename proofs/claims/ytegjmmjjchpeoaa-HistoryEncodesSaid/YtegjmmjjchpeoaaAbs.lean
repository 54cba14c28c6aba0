/- What the functions of the history compute, as plain functions. No conditions. -/
import Derived.Test.YtegjmmjjchpeoaaEnt
import Derived.Test.YtegjmmjjchpeoaaMx
import Derived.Test.YtegjmmjjchpeoaaBx
import Derived.Test.YtegjmmjjchpeoaaQx
namespace Go.Proofs.Ytegjmmjjchpeoaa
open Go Go.RowKit Go.Sx
def minuteB (n : Int) : Bool := decide (0 ≤ n ∧ n ≤ 105190559)
def oldB (d n : Int) : Bool := decide (d < n - 20160)
def checkE (x : Ent) : Int := if minuteB x.arr = true ∧ minuteB x.date = true then (if x.st = 0 ∨ x.st = 1 then 0 else 11) else 13
def judgeF (dup : Bool) (cut date now : Int) (perm : Bool) : Int :=
  if minuteB date = true ∧ minuteB now = true then (if dup = true then 7 else if now + 1440 < date then 15 else if (oldB date now = true ∨ oldB date cut = true) ∧ perm = false then 14 else 0) else 13
theorem wrap_i64 (n : Int) (h1 : -9223372036854775808 ≤ n) (h2 : n ≤ 9223372036854775807) : IntKind.i64.wrap n = n := by
  simp [IntKind.wrap, IntKind.bits, IntKind.signed]; omega
theorem minuteB_bounds {n : Int} (h : minuteB n = true) : 0 ≤ n ∧ n ≤ 105190559 := by simpa [minuteB] using h
abbrev HMap := List (Id × Ent)
def addErr (dup : Bool) (x : Ent) : Int := if checkE x = 0 then (if dup = true then 7 else 0) else checkE x
def addL (L : HMap) (x : Ent) : HMap := if addErr (mlook L x.id).isSome x = 0 then upd L x.id x else L
def goneErr : Option Ent → Int
  | none => 8
  | some e => if e.st = 1 then 10 else 0
def goneL (L : HMap) (id : Id) : HMap := match mlook L id with
  | none => L
  | some e => if e.st = 1 then L else upd L id { e with st := 1 }
theorem ne_of_facts {p m : Nat} {cs : Array Value} {E : TypeId} {fr : Nat × Nat} {es : Array MapEntry} {clock : Nat} {w : World} (hp : HpOK [(p, .cells cs E fr), (m, .map es clock)] w) : p ≠ m := fun e => by
  subst e
  have h1 := hp p (.cells cs E fr) (by simp)
  have h2 := hp p (.map es clock) (by simp)
  rw [h1] at h2; cases h2
abbrev ptr (p : Nat) : Value := .pointer (some ⟨p, 0, none⟩)
/-- the facts of a history's blocks -/
abbrev hist (p m : Nat) (cut : Int) (es : Array MapEntry) (clock : Nat) : Heap := [(p, .cells #[.map (some m), I cut] 86 (0, 0)), (m, .map es clock)]
/-- .. with others behind -/
abbrev histC (p m : Nat) (cut : Int) (es : Array MapEntry) (clock : Nat) (κ : Heap) : Heap := (p, .cells #[.map (some m), I cut] 86 (0, 0)) :: (m, .map es clock) :: κ
/-! rows of entries -/
abbrev entL (x : Ent) : List Value := (entC x).toList
theorem entL_len (x : Ent) : (entL x).length = 36 := by simp [entC_size]
theorem entL_one (x : Ent) : ∀ u ∈ entL x, u.oneCell' = true := entC_one x
class AtRow (cur : Array Value) (o : Nat) (x : outParam Ent) : Prop where
  go : ∀ i, i < 36 → cur[o + i]? = (entC x)[i]?
theorem at_row {cur : Array Value} {rows : List Ent} {j : Nat} {x : Ent} (hcur : ∀ i, i < rows.length * 36 → cur[i]? = (rows.flatMap entL)[i]?) (hx : rows[j]? = some x) : AtRow cur (j * 36) x := ⟨fun i hi => by
  have hj := (List.getElem?_eq_some_iff.1 hx).1
  rw [hcur _ (by omega), flat_at entL_len rows j i x hx hi]
  simp⟩
instance (cur : Array Value) (o : Nat) (x : Ent) [h : AtRow cur o x] : ReadsAt Try.prog 22 cur o (idK x.id) := ReadsAt.agg (k := 32) (idC_size _) (fun j hj => by rw [h.go j (by omega), ← entC_id x j hj, Nat.zero_add])
instance (cur : Array Value) (o : Nat) (x : Ent) [h : AtRow cur o x] : ReadsAt Try.prog 27 cur o (idK x.id) := ReadsAt.agg (k := 32) (idC_size _) (fun j hj => by rw [h.go j (by omega), ← entC_id x j hj, Nat.zero_add])
instance (cur : Array Value) (o : Nat) (x : Ent) [h : AtRow cur o x] : ReadsAt Try.prog 24 cur o (entK x) := ReadsAt.agg (k := 36) (entC_size _) (fun j hj => h.go j hj)
instance (cur : Array Value) (o : Nat) (x : Ent) [h : AtRow cur o x] : ReadsAt Try.prog 29 cur o (entK x) := ReadsAt.agg (k := 36) (entC_size _) (fun j hj => h.go j hj)
instance (cur : Array Value) (o : Nat) (x : Ent) [h : AtRow cur o x] : GetAt cur (o + 32) (I x.arr) := ⟨by rw [h.go 32 (by omega)]; exact entC_at x 0⟩
instance (cur : Array Value) (o : Nat) (x : Ent) [h : AtRow cur o x] : GetAt cur (o + 33) (I x.date) := ⟨by rw [h.go 33 (by omega)]; exact entC_at x 1⟩
instance (cur : Array Value) (o : Nat) (x : Ent) [h : AtRow cur o x] : GetAt cur (o + 34) (I x.st) := ⟨by rw [h.go 34 (by omega)]; exact entC_at x 2⟩
instance (cur : Array Value) (o : Nat) (x : Ent) [h : AtRow cur o x] : GetAt cur (o + 35) (.bool x.perm) := ⟨by rw [h.go 35 (by omega)]; exact entC_at x 3⟩
instance (x : Id) : BytesAt (idC x) 0 32 x.toList := ⟨by simp, fun j y hj => by
  have hj' : j < 32 := by have := (List.getElem?_eq_some_iff.1 hj).1; simpa using this
  rw [Nat.zero_add, idC_at x j hj']
  have := (List.getElem?_eq_some_iff.1 hj).2
  simp at this
  rw [← this]; rfl⟩
instance (x : Ent) : BytesAt (entC x) 0 32 x.id.toList := ⟨by simp, fun j y hj => by
  have hj' : j < 32 := by have := (List.getElem?_eq_some_iff.1 hj).1; simpa using this
  rw [entC_id x j hj', ← Nat.zero_add j]
  exact (inferInstance : BytesAt (idC x.id) 0 32 x.id.toList).go j y hj⟩
section
variable {σ : Slots} {φ : Heap} {dst : Option Tmp} {ty : TypeId} {pos : String} {aft : Array Edge} {g : Option (Nat × Bool)}
theorem rd_eqid {T U : TypeId} {x y : Operand} {a b : Id} (hx : ev σ x = some (idK a)) (hy : ev σ y = some (idK b)) (hT : Try.prog.underlying T = some (.array 32 5)) (hm : Try.prog.eqGuardType Try.prog.depth T = false) : Rd Try.prog σ φ ⟨dst, .binOp .eql T x y U, ty, pos, aft, g⟩ (.bool (decide (a = b))) :=
  rd_eqagg hx hy hm (fun w => eq_id T hT a b w) rfl
theorem rd_neid {T U : TypeId} {x y : Operand} {a b : Id} (hx : ev σ x = some (idK a)) (hy : ev σ y = some (idK b)) (hT : Try.prog.underlying T = some (.array 32 5)) (hm : Try.prog.eqGuardType Try.prog.depth T = false) : Rd Try.prog σ φ ⟨dst, .binOp .neq T x y U, ty, pos, aft, g⟩ (.bool (decide (a ≠ b))) :=
  rd_eqagg hx hy hm (fun w => eq_id T hT a b w) (by simp)
end
/-- the order of identities -/
abbrev idLt (a b : Id) : Prop := a.toList < b.toList
/-- the place of an entry, or -1 -/
def findF (id : Id) : List Ent → Int → Int
  | [], _ => -1
  | x :: r, j => if x.id = id then j else findF id r (j + 1)
/-- the order of two numbers as -1, 0, 1 -/
def cmpF (a b : Int) : Int := if a < b then -1 else if b < a then 1 else 0
def cmpId (a b : Id) : Int := Lib.compareBytes a.toList b.toList
def cmpArr (a b : Ent) : Int := if cmpF a.arr b.arr ≠ 0 then cmpF a.arr b.arr else cmpId a.id b.id
def orF : List Int → Int
  | [] => 0
  | x :: r => if x ≠ 0 then x else orF r
/-- what Forget forgets at a minute -/
def goneB (x : Ent) (now : Int) : Bool := decide (x.st = 1) && !x.perm && oldB x.date now
instance (x y : Int) : BuildsS Try.prog 112 2 [(0, I x), (1, I y)] 3 #[I x, I y] := BuildsS.two Try.underlying112 Try.sizeOf3 Try.zeroValue3 inferInstance inferInstance
/-! the orders -/
theorem compareBytes_lt : ∀ (a b : List UInt8), Lib.compareBytes a b < 0 ↔ a < b
  | [], [] => by simp [Lib.compareBytes]
  | [], _ :: _ => by simp [Lib.compareBytes]
  | _ :: _, [] => by simp [Lib.compareBytes]
  | x :: a, y :: b => by
    rw [Lib.compareBytes, List.cons_lt_cons_iff]
    by_cases h1 : x < y
    · simp [h1]
    · by_cases h2 : y < x
      · have hne : x ≠ y := fun e => by subst e; exact absurd h2 (UInt8.lt_irrefl _)
        simp [h1, h2, hne]
      · have he : x = y := UInt8.le_antisymm (UInt8.not_lt.1 h2) (UInt8.not_lt.1 h1)
        subst he
        simp [compareBytes_lt a b]
theorem compareBytes_zero : ∀ (a b : List UInt8), Lib.compareBytes a b = 0 ↔ a = b
  | [], [] => by simp [Lib.compareBytes]
  | [], _ :: _ => by simp [Lib.compareBytes]
  | _ :: _, [] => by simp [Lib.compareBytes]
  | x :: a, y :: b => by
    rw [Lib.compareBytes]
    by_cases h1 : x < y
    · have hne : x ≠ y := fun e => by subst e; exact absurd h1 (UInt8.lt_irrefl _)
      simp [h1, hne]
    · by_cases h2 : y < x
      · have hne : x ≠ y := fun e => by subst e; exact absurd h2 (UInt8.lt_irrefl _)
        simp [h1, h2, hne]
      · have he : x = y := UInt8.le_antisymm (UInt8.not_lt.1 h2) (UInt8.not_lt.1 h1)
        subst he
        simp [compareBytes_zero a b]
theorem idLt_irrefl (a : Id) : ¬ idLt a a := List.lt_irrefl _
theorem idLt_trans {a b c : Id} (h1 : idLt a b) (h2 : idLt b c) : idLt a c := List.lt_trans h1 h2
theorem idLt_total {a b : Id} (h1 : ¬ idLt a b) (h2 : ¬ idLt b a) : a = b := by
  have h := List.le_antisymm (List.not_lt.1 h2) (List.not_lt.1 h1)
  exact Vector.toList_inj.1 h
theorem cmpId_lt (a b : Id) : cmpId a b < 0 ↔ idLt a b := compareBytes_lt _ _
theorem cmpId_zero (a b : Id) : cmpId a b = 0 ↔ a = b := by rw [cmpId, compareBytes_zero]; exact Vector.toList_inj
theorem ltId (x y : Ent) : Go.Proofs.ltOf (fun x y : Ent => cmpId x.id y.id) x y = decide (idLt x.id y.id) := by
  simp only [Go.Proofs.ltOf, cmpId_lt]
theorem swoId : Sort.SWO (Go.Proofs.ltOf (fun x y : Ent => cmpId x.id y.id)) := ⟨fun x => by rw [ltId]; exact decide_eq_false (idLt_irrefl _),
  fun x y z h1 h2 => by rw [ltId] at *; simp only [decide_eq_true_eq] at *; exact idLt_trans h1 h2,
  fun x y z h1 h2 => by
    rw [ltId] at *; simp only [decide_eq_false_iff_not] at *
    intro h
    by_cases h3 : idLt y.id x.id
    · exact h2 (idLt_trans h3 h)
    · have e := idLt_total h1 h3
      rw [e] at h
      exact h2 h⟩
/-- the order by arrival, then identity -/
abbrev arrLt (x y : Ent) : Prop := x.arr < y.arr ∨ x.arr = y.arr ∧ idLt x.id y.id
theorem ltArr (x y : Ent) : Go.Proofs.ltOf cmpArr x y = decide (arrLt x y) := by
  have key : cmpArr x y < 0 ↔ arrLt x y := by
    simp only [cmpArr, cmpF]
    by_cases h1 : x.arr < y.arr
    · simp [h1, arrLt]
    · by_cases h2 : y.arr < x.arr
      · have h3 : ¬ x.arr = y.arr := by omega
        simp [h1, h2, h3, arrLt]
      · have h3 : x.arr = y.arr := by omega
        simp [h3, arrLt, cmpId_lt]
  unfold Go.Proofs.ltOf
  simp only [key]
theorem swoArr : Sort.SWO (Go.Proofs.ltOf cmpArr) := ⟨fun x => by rw [ltArr]; exact decide_eq_false (fun h => h.elim (fun h => absurd h (Int.lt_irrefl _)) (fun h => idLt_irrefl _ h.2)),
  fun x y z h1 h2 => by
    rw [ltArr] at *; simp only [decide_eq_true_eq] at *
    rcases h1 with h1 | ⟨h1, h1'⟩ <;> rcases h2 with h2 | ⟨h2, h2'⟩
    · exact .inl (by omega)
    · exact .inl (by omega)
    · exact .inl (by omega)
    · exact .inr ⟨by omega, idLt_trans h1' h2'⟩,
  fun x y z h1 h2 => by
    rw [ltArr] at *; simp only [decide_eq_false_iff_not] at *
    intro h
    simp only [arrLt, not_or, not_and] at h1 h2
    rcases h with h | ⟨h, h'⟩
    · omega
    · have e1 : x.arr = y.arr := by omega
      have e2 : y.arr = z.arr := by omega
      have h1' := h1.2 e1
      have h2' := h2.2 e2
      by_cases h3 : idLt y.id x.id
      · exact h2' (idLt_trans h3 h')
      · have e := idLt_total h1' h3
        rw [e] at h'
        exact h2' h'⟩
theorem zero24 (w : World) : (zeroValue 24).run Try.prog w = .ok (.agg (entC ent0)) w := by rw [Try.zeroValue24]; simp only [entC, ent0]; rw [idC0]; rfl
instance (x : Ent) : BuildsS Try.prog 54 1 [(0, entK x)] 29 (entC x) := BuildsS.one Try.underlying54 Try.sizeOf29 rfl rfl zero29 rfl (entC_size x)
instance (x : Ent) : BuildsS Try.prog 36 1 [(0, entK x)] 24 (entC x) := BuildsS.one Try.underlying36 Try.sizeOf24 rfl rfl zero24 rfl (entC_size x)
instance (x : Id) : BuildsS Try.prog 46 1 [(0, idK x)] 27 (idC x) := BuildsS.one Try.underlying46 Try.sizeOf27 rfl rfl Try.zeroValue27 rfl (idC_size x)
instance (x : Id) : BuildsS Try.prog 81 1 [(0, idK x)] 22 (idC x) := BuildsS.one Try.underlying81 Try.sizeOf22 rfl rfl Try.zeroValue22 rfl (idC_size x)
instance : BuildsS Try.prog 36 0 [] 24 #[] := BuildsS.zero Try.underlying36 Try.sizeOf24
abbrev idL (x : Id) : List Value := (idC x).toList
theorem idL_len (x : Id) : (idL x).length = 32 := by simp [idC_size]
instance : Inhabited Ent := ⟨ent0⟩
/-- the comparison fc is cf -/
structure IsCmp (fc : Nat) (cf : Ent → Ent → Int) : Prop where
  en : ∀ args w, (callFunc fc args).run Try.prog w = .ok (.enter fc args) w
  ret : ∀ x y w, Ret Try.prog fc [entK x, entK y] w [] (fun v _ => v = I (cf x y))
  swo : Sort.SWO (Go.Proofs.ltOf cf)
/-- the filter fk over the captured values caps, whose facts are κ, is keep -/
structure IsKeep (fk : Nat) (caps : Array Value) (κ : Heap) (keep : Ent → Bool) : Prop where
  en : ∀ args w, (callFunc fk args).run Try.prog w = .ok (.enter fk args) w
  ret : ∀ x w, HpOK κ w → Ret Try.prog fk ([entK x] ++ caps.toList) w [] (fun v _ => v = .bool (keep x))
/-- what is forgotten at a minute -/
def forgetB (x : Ent) (now : Int) : Bool := minuteB now && goneB x now
abbrev rowL (ids : List Id) : List Value := ids.flatMap idL
/-- an entry more, in the order of identities -/
def insF (x : Ent) : List Ent → List Ent
  | [] => [x]
  | y :: r => if idLt y.id x.id then y :: insF x r else x :: y :: r
theorem insF_len (x : Ent) : ∀ l, (insF x l).length = l.length + 1
  | [] => rfl
  | y :: r => by simp only [insF]; split <;> simp [insF_len x r]
theorem findF_ge {id : Id} : ∀ {l : List Ent} {k : Int}, 0 ≤ k → 0 ≤ findF id l k → ∃ j x, l[j]? = some x ∧ x.id = id ∧ findF id l k = k + (j : Nat)
  | [], k, _, h => by simp [findF] at h
  | x :: r, k, hk, h => by
    simp only [findF] at h ⊢
    by_cases he : x.id = id
    · exact ⟨0, x, rfl, he, by simp [he]⟩
    · simp only [he, if_false] at h ⊢
      obtain ⟨j, y, h1, h2, h3⟩ := findF_ge (by omega) h
      exact ⟨j + 1, y, by simpa using h1, h2, by rw [h3]; omega⟩
theorem findF_lt {id : Id} : ∀ {l : List Ent} {k : Int}, 0 ≤ k → findF id l k < 0 → ∀ x ∈ l, x.id ≠ id
  | [], _, _, _ => by simp
  | x :: r, k, hk, h => by
    simp only [findF] at h
    by_cases he : x.id = id
    · simp only [he, if_true] at h; omega
    · simp only [he, if_false] at h
      intro y hy
      rcases List.mem_cons.1 hy with rfl | hy
      · exact he
      · exact findF_lt (by omega) h y hy
/-- one entry's state is set -/
theorem row_set {base g cap : Nat} {cur : Array Value} {rows : List Ent} {j : Nat} {x : Ent} (h : OwnR base 24 36 (.slice (some ⟨g, 0, none⟩) rows.length cap) [(g, .cells cur 24 (0, 0))] rows.length (rows.flatMap entL)) (hx : rows[j]? = some x) (n : Int) :
    SetAt cur (j * 36 + 34) (I n) (splice cur (j * 36 + 34) #[I n]) ∧ OwnR base 24 36 (.slice (some ⟨g, 0, none⟩) rows.length cap) [(g, .cells (splice cur (j * 36 + 34) #[I n]) 24 (0, 0))] (rows.set j { x with st := n }).length ((rows.set j { x with st := n }).flatMap entL) := by
  have hj := (List.getElem?_eq_some_iff.1 hx).1
  rcases h with ⟨h0, _⟩ | ⟨g', cap', cur', h1, h2, h3, h4, h5, h6, h7, h8⟩
  · cases h0
  simp only [Value.slice.injEq, Option.some.injEq, Addr.mk.injEq, and_true, true_and] at h1
  obtain ⟨rfl, rfl⟩ := h1
  simp only [List.cons.injEq, Prod.mk.injEq, Obj.cells.injEq, and_true, true_and] at h2
  subst h2
  have hcap : rows.length * 36 ≤ cur.size := by rw [h6]; exact Nat.mul_le_mul_right 36 h4
  have hsz : (splice cur (j * 36 + 34) #[I n]).size = cur.size := by
    simp [splice]; omega
  refine ⟨⟨by omega, rfl⟩, .inr ⟨g, cap, _, by rw [List.length_set], rfl, h3, by simpa using h4, h5, by rw [hsz]; exact h6, ?_, by rw [flat_len entL_len]⟩⟩
  have hset : (splice cur (j * 36 + 34) #[I n]).toList = cur.toList.set (j * 36 + 34) (I n) := by
    rw [List.set_eq_take_append_cons_drop, if_pos (by simp; omega)]
    simp [splice]
  rw [hset]
  apply List.ext_getElem?
  intro t
  rw [List.length_set, List.getElem?_take]
  by_cases ht : t < rows.length * 36
  · rw [if_pos ht]
    have ht2 : t / 36 < rows.length := (Nat.div_lt_iff_lt_mul (by omega)).2 ht
    have ht3 : t / 36 * 36 + t % 36 = t := by omega
    have hold : (rows.flatMap entL)[t]? = cur.toList[t]? := by rw [← h7, List.getElem?_take, if_pos ht]
    by_cases hjt : t / 36 = j
    · have h9 := flat_at entL_len (rows.set j { x with st := n }) j (t % 36) { x with st := n } (by rw [List.getElem?_set_self hj]) (Nat.mod_lt _ (by omega))
      have h10 := flat_at entL_len rows j (t % 36) x hx (Nat.mod_lt _ (by omega))
      rw [hjt] at ht3
      rw [ht3] at h9 h10
      rw [h9]
      rw [hold] at h10
      have hes : entL { x with st := n } = (entL x).set 34 (I n) := by
        have := (inferInstance : SetAt (entC x) 34 (I n) (entC { x with st := n })).go
        simp only [entL, this]
        rw [List.set_eq_take_append_cons_drop, if_pos (by simp [entC_size])]
        simp
      rw [hes]
      by_cases h34 : t % 36 = 34
      · have e : j * 36 + 34 = t := by omega
        rw [e, h34, List.getElem?_set_self (by simp; omega), List.getElem?_set_self (by simp [entC_size])]
      · rw [List.getElem?_set_ne (by omega), List.getElem?_set_ne (by omega), h10]
    · have h9 := flat_at entL_len (rows.set j { x with st := n }) (t / 36) (t % 36) rows[t / 36] (by rw [List.getElem?_set_ne (Ne.symm hjt)]; exact List.getElem?_eq_getElem ht2) (Nat.mod_lt _ (by omega))
      have h10 := flat_at entL_len rows (t / 36) (t % 36) rows[t / 36] (List.getElem?_eq_getElem ht2) (Nat.mod_lt _ (by omega))
      rw [ht3] at h9 h10
      rw [h9, List.getElem?_set_ne (by omega), ← hold, h10]
  · rw [if_neg ht, List.getElem?_eq_none (by rw [flat_len entL_len]; simpa using ht)]
/-- the rows after one has gone -/
def goneF (id : Id) : List Ent → List Ent
  | [] => []
  | x :: r => if x.id = id then { x with st := 1 } :: r else x :: goneF id r
/-- SetGone's error -/
def goneE (id : Id) : List Ent → Int
  | [] => 8
  | x :: r => if x.id = id then (if x.st = 1 then 10 else 0) else goneE id r
theorem findF_first {id : Id} : ∀ {l : List Ent} {k : Int}, 0 ≤ k → ((findF id l k < 0) ∧ goneE id l = 8) ∨ ∃ (j : Nat) (x : Ent), l[j]? = some x ∧ findF id l k = k + (j : Nat) ∧ goneE id l = (if x.st = 1 then 10 else 0) ∧ goneF id l = l.set j { x with st := 1 }
  | [], k, _ => .inl ⟨by simp [findF], rfl⟩
  | x :: r, k, hk => by
    by_cases he : x.id = id
    · exact .inr ⟨0, x, rfl, by simp [findF, he], by simp [goneE, he], by simp [goneF, he]⟩
    · rcases findF_first (id := id) (l := r) (k := k + 1) (by omega) with ⟨h1, h2⟩ | ⟨j, y, h1, h2, h3, h4⟩
      · exact .inl ⟨by simpa [findF, he] using h1, by simpa [goneE, he] using h2⟩
      · exact .inr ⟨j + 1, y, by simpa using h1, by simp [findF, he, h2]; omega, by simpa [goneE, he] using h3, by simp [goneF, he, h4]⟩
end Go.Proofs.Ytegjmmjjchpeoaa
