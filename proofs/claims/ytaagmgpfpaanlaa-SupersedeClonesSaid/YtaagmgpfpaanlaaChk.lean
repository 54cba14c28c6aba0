/- Checks of rows, sorted identities. No conditions. -/
import Derived.Test.YtaagmgpfpaanlaaIdx
namespace Go.Proofs.Ytaagmgpfpaanlaa
open Go Go.RowKit Go.Sx
set_option linter.unusedVariables false
set_option linter.unusedSimpArgs false
instance PickA.append (ν1 ν2 η η1 η2 : Heap) [h1 : PickA ν1 η η1] [h2 : PickA ν2 η1 η2] : PickA (ν1 ++ ν2) η η2 := ⟨h1.go.trans ((h2.go.append_left ν1).trans (by rw [List.append_assoc]))⟩
abbrev bK (b : Bool) : Value := .bool b
def chkG : List RR → List RR → Int
  | _, [] => 0
  | pre, x :: r => if dateB x.date then (if (∃ y ∈ pre, y.id = x.id) then 7 else chkG (pre ++ [x]) r) else 13
def chkE (l : List RR) : Int := chkG [] l
theorem chkG_nd : ∀ (l pre : List RR), chkG pre l = 0 → (pre.map RR.id).Nodup → ((pre ++ l).map RR.id).Nodup ∧ ∀ x ∈ l, dateB x.date
  | [], pre, _, hn => ⟨by simpa using hn, by simp⟩
  | x :: r, pre, h, hn => by
    simp only [chkG] at h
    by_cases hd : dateB x.date
    · rw [if_pos hd] at h
      by_cases he : ∃ y ∈ pre, y.id = x.id
      · rw [if_pos he] at h; cases h
      · rw [if_neg he] at h
        have hn2 : ((pre ++ [x]).map RR.id).Nodup := by
          rw [List.map_append, List.nodup_append]
          refine ⟨hn, by simp, fun a ha b hb hab => ?_⟩
          obtain ⟨y, hy, rfl⟩ := List.mem_map.1 ha
          simp at hb; subst hb
          exact he ⟨y, hy, hab⟩
        obtain ⟨h1, h2⟩ := chkG_nd r (pre ++ [x]) h hn2
        refine ⟨by simpa using h1, fun y hy => ?_⟩
        rcases List.mem_cons.1 hy with rfl | hy
        · exact hd
        · exact h2 y hy
    · rw [if_neg hd] at h; cases h
theorem chkE_nd {l : List RR} (h : chkE l = 0) : (l.map RR.id).Nodup ∧ ∀ x ∈ l, dateB x.date := by simpa using chkG_nd l [] h (by simp)
theorem chkG_ok : ∀ (l pre : List RR), ((pre ++ l).map RR.id).Nodup → (∀ x ∈ l, dateB x.date) → chkG pre l = 0
  | [], pre, _, _ => rfl
  | x :: r, pre, hn, hd => by
    have he : ¬ ∃ y ∈ pre, y.id = x.id := by
      rintro ⟨y, hy, h⟩
      rw [List.map_append, List.nodup_append] at hn
      exact hn.2.2 _ (List.mem_map.2 ⟨y, hy, rfl⟩) _ (List.mem_map.2 ⟨x, by simp, rfl⟩) h
    rw [chkG, if_pos (hd x (by simp)), if_neg he]
    exact chkG_ok r (pre ++ [x]) (by simpa using hn) (fun y hy => hd y (by simp [hy]))
theorem chkE_iff {l : List RR} : chkE l = 0 ↔ (l.map RR.id).Nodup ∧ ∀ x ∈ l, dateB x.date := ⟨chkE_nd, fun h => chkG_ok l [] (by simpa using h.1) h.2⟩
theorem seen_some {pre : List RR} {id : Id} (h : ∃ y ∈ pre, y.id = id) : mlook (pre.map fun x => (x.id, true)) id = some true := by
  induction pre with
  | nil => simp at h
  | cons x r ih =>
    rw [List.map_cons, mlook_cons]
    by_cases hx : id = x.id
    · simp [hx]
    · rw [if_neg hx]
      apply ih
      obtain ⟨y, hy, he⟩ := h
      rcases List.mem_cons.1 hy with rfl | hy
      · exact absurd he.symm hx
      · exact ⟨y, hy, he⟩
theorem seen_none {pre : List RR} {id : Id} (h : ¬ ∃ y ∈ pre, y.id = id) : mlook (pre.map fun x => (x.id, true)) id = none := by
  refine lookup_none.2 fun p hp => ?_
  obtain ⟨y, hy, rfl⟩ := List.mem_map.1 hp
  exact fun e => h ⟨y, hy, e⟩
theorem zero4 (w : World) : (zeroValue 4).run Try.prog w = .ok (.bool false) w := Try.zeroValue4 w
/-! sorted identities -/
def insI (x : Id) : List Id → List Id
  | [] => [x]
  | y :: r => if idLt x y then x :: y :: r else y :: insI x r
def sortI (l : List Id) : List Id := l.foldl (fun acc x => insI x acc) []
theorem insI_perm (x : Id) : ∀ l : List Id, (insI x l).Perm (x :: l)
  | [] => List.Perm.refl _
  | y :: r => by
    simp only [insI]
    split
    · exact List.Perm.refl _
    · exact ((insI_perm x r).cons y).trans (List.Perm.swap x y r)
theorem foldlI_perm : ∀ (l acc : List Id), (l.foldl (fun acc x => insI x acc) acc).Perm (l ++ acc)
  | [], acc => List.Perm.refl _
  | x :: r, acc => (foldlI_perm r (insI x acc)).trans (((insI_perm x acc).append_left r).trans List.perm_middle)
theorem sortI_perm (l : List Id) : (sortI l).Perm l := by simpa [sortI] using foldlI_perm l []
theorem insI_sorted {x : Id} : ∀ {l : List Id}, l.Pairwise (fun a b => ¬ idLt b a) → (insI x l).Pairwise (fun a b => ¬ idLt b a)
  | [], _ => by simp [insI]
  | y :: r, h => by
    simp only [insI]
    have h1 := List.pairwise_cons.1 h
    split
    · rename_i hxy
      refine List.pairwise_cons.2 ⟨fun b hb => ?_, h⟩
      rcases List.mem_cons.1 hb with rfl | hb
      · exact fun h2 => idLt_irrefl _ (idLt_trans h2 hxy)
      · exact fun h2 => h1.1 b hb (idLt_trans h2 hxy)
    · rename_i hxy
      refine List.pairwise_cons.2 ⟨fun b hb => ?_, insI_sorted h1.2⟩
      rcases List.mem_cons.1 ((insI_perm x r).mem_iff.1 hb) with rfl | hb
      · exact hxy
      · exact h1.1 b hb
theorem foldlI_sorted : ∀ (l acc : List Id), acc.Pairwise (fun a b => ¬ idLt b a) → (l.foldl (fun acc x => insI x acc) acc).Pairwise (fun a b => ¬ idLt b a)
  | [], acc, h => h
  | x :: r, acc, h => foldlI_sorted r _ (insI_sorted h)
theorem sortI_sorted (l : List Id) : (sortI l).Pairwise (fun a b => ¬ idLt b a) := foldlI_sorted l [] List.Pairwise.nil
theorem sortI_unique {l ys : List Id} (hp : ys.Perm l) (hs : ys.Pairwise (fun a b => ¬ idLt b a)) : ys = sortI l :=
  List.Perm.eq_of_pairwise (le := fun x y => ¬ idLt y x) (fun a b _ _ h1 h2 => idLt_total h2 h1) hs (sortI_sorted l) (hp.trans (sortI_perm l).symm)
theorem sortI_congr {l m : List Id} (h : l.Perm m) : sortI l = sortI m := sortI_unique ((sortI_perm l).trans h) (sortI_sorted l)
theorem sortI_len (l : List Id) : (sortI l).length = l.length := (sortI_perm l).length_eq
def whereI (own : List RR) (pr : Id → Bool) : List Id := sortI ((own.map RR.id).filter pr)
/-- a function value that tells a Bool of an identity -/
structure IsPred (fd : Nat) (rc caps : Array Value) (κ : Heap) (pr : Id → Bool) : Prop where
  en : ∀ args w, (callFunc fd args).run Try.prog w = .ok (.enter fd args) w
  ret : ∀ id w, HpOK κ w → (κ.map Prod.fst).Nodup → Ret Try.prog fd (rc.toList ++ [idK id] ++ caps.toList) w [] (fun v _ => v = .bool (pr id))
/-- a fresh set with the rows own; φ are facts that stay -/
def SetNew (φ : Heap) (own : List RR) (w w' : World) (v : Value) : Prop := ∃ (p m k : Nat) (es : Array MapEntry) (c : Nat) (ws : Array MapEntry) (d : Nat) (L : RMap) (W : WMap) (ν : Heap),
  v = ptr p ∧ HpOK (setC p m k es c ws d ν) w' ∧ ((setC p m k es c ws d ν).map Prod.fst).Nodup ∧ (∀ b ∈ (setC p m k es c ws d ν).map Prod.fst, w.heap.size ≤ b) ∧ MapIs idK hrK es c L ∧ MapIs idK wvK ws d W ∧ SetOK (ν ++ φ) L W own
end Go.Proofs.Ytaagmgpfpaanlaa
