/- A chain's walk, as plain facts. No conditions. -/
import Derived.Test.YtheioljidangkaaGreatW13
namespace Go.Proofs.YtheioljidangkaaGreat
open Go Go.RowKit Go.Sx
set_option linter.unusedVariables false
set_option linter.unusedSimpArgs false
/-- a function that is called for keys: J: what its blocks say after the keys so far; go: does it go on -/
structure IsVisit (fd : Nat) (caps : Array Value) (κ : Heap) (J : List KK → Heap → Prop) (go : List KK → KK → Bool) : Prop where
  en : ∀ args w, (callFunc fd args).run Tryz.prog w = .ok (.enter fd args) w
  ret : ∀ (pre : List KK) (x : KK) (ν : Heap) (w : World), pre.length ≤ 1000 → J pre ν → HpOK (ν ++ κ) w → ((ν ++ κ).map Prod.fst).Nodup → Ret Tryz.prog fd ([kkK x] ++ caps.toList) w (ν.map Prod.fst)
    (fun u w' => u = .bool (go pre x) ∧ ∃ ν', J (pre ++ [x]) ν' ∧ HpOK ν' w' ∧ (ν'.map Prod.fst).Nodup ∧ ∀ b ∈ ν'.map Prod.fst, w.heap.size ≤ b ∨ b ∈ ν.map Prod.fst)
def visitF (go : List KK → KK → Bool) : List KK → List KK → List KK
  | pre, [] => pre
  | pre, x :: r => if go pre x then visitF go (pre ++ [x]) r else pre ++ [x]
theorem visit_go {go : List KK → KK → Bool} {pre r : List KK} {x : KK} (h : go pre x = true) : visitF go pre (x :: r) = visitF go (pre ++ [x]) r := by rw [visitF, if_pos h]
theorem visit_stop {go : List KK → KK → Bool} {pre r : List KK} {x : KK} (h : go pre x = false) : visitF go pre (x :: r) = pre ++ [x] := by rw [visitF, if_neg (by simp [h])]
theorem chain_some {own : List RK} {a : Au} {nn : Nat} {q : Pub} {r : RK} (h : minOf rkLt (atPl own ⟨a, nn, q⟩) = some r) (hn : nn ≤ 1000) : chainG own a (1001 - nn) nn q = ⟨nn, q, r.leaf, r.id⟩ :: chainG own a (1001 - (nn + 1)) (nn + 1) r.q := by
  have h' : endF own ⟨a, nn, q⟩ = some r := h
  rw [show 1001 - nn = (1001 - (nn + 1)) + 1 by omega, chainG, h']
theorem chain_none {own : List RK} {a : Au} {nn : Nat} {q : Pub} (h : minOf rkLt (atPl own ⟨a, nn, q⟩) = none) (hn : nn ≤ 1000) : chainG own a (1001 - nn) nn q = [⟨nn, q, -1, id0⟩] := by
  have h' : endF own ⟨a, nn, q⟩ = none := h
  rw [show 1001 - nn = (1001 - (nn + 1)) + 1 by omega, chainG, h']
/-! the roll-overs of a place -/
def PlAt (W : WMap) (x : PlK) (g : GV) : Prop := (mlook W x = .none ∧ g = gnil) ∨ ∃ v, mlook W x = .some v ∧ v.g = g
section
variable {L : RMap} {W : WMap} {own : List RK}
theorem facts_mem {q : PlK × PV} (hq : q ∈ W) : ∀ f ∈ q.2.ν, f ∈ facts W := fun f hf => List.mem_flatMap.2 ⟨q, hq, hf⟩
theorem RingOK.place (h : RingOK L W own) (hn : (W.map Prod.fst).Nodup) (x : PlK) : ∃ g, PlAt W x g ∧ Src (facts W) g.v 84 (atPl own x.1).length ((atPl own x.1).flatMap rkL) := by
  cases hl : mlook W x with
  | none =>
    have h0 : atPl own x.1 = [] := by
      rw [atPl, List.filter_eq_nil_iff]
      intro r hr
      obtain ⟨q, hq, he⟩ := h.all r hr
      have := lookup_none.1 hl q hq
      simp only [decide_eq_true_eq]
      intro e
      exact this (Subtype.ext (he.trans e))
    exact ⟨gnil, .inl ⟨hl, rfl⟩, by rw [h0]; exact ⟨by simp, .inl ⟨rfl, rfl⟩⟩⟩
  | some v =>
    have hm := (lookup_some hn).1 hl
    have h1 := (h.ids _ hm).1
    simp only at h1
    exact ⟨v.g, .inr ⟨v, hl, rfl⟩, by rw [← h1]; exact (h.sl _ hm).src.mono (facts_mem hm)⟩
theorem nd_len {α : Type} [DecidableEq α] : ∀ {l l' : List α}, l.Nodup → (∀ x ∈ l, x ∈ l') → l.length ≤ l'.length
  | [], _, _, _ => by simp
  | x :: l, l', hn, hs => by
    rw [List.nodup_cons] at hn
    have h1 := nd_len (l := l) (l' := l'.erase x) hn.2 (fun y hy => (List.mem_erase_of_ne (fun e => hn.1 (by subst e; exact hy))).2 (hs y (List.mem_cons_of_mem _ hy)))
    have h2 := List.length_erase_of_mem (hs x (by simp))
    have h3 := List.length_pos_of_mem (hs x (by simp))
    simp only [List.length_cons]
    omega
theorem RingOK.wlen (h : RingOK L W own) (hn : (W.map Prod.fst).Nodup) : W.length ≤ own.length := by
  have h1 : (W.map fun q => q.1.1).Nodup := by
    have : (W.map fun q => q.1.1) = (W.map Prod.fst).map Subtype.val := by rw [List.map_map]; rfl
    rw [this]
    exact List.pairwise_map.2 (hn.imp fun h e => h (Subtype.ext e))
  have h2 := nd_len h1 (l' := own.map plOf) (fun x hx => by
    obtain ⟨q, hq, rfl⟩ := List.mem_map.1 hx
    obtain ⟨h3, h4⟩ := h.ids q hq
    obtain ⟨r, hr⟩ := List.exists_mem_of_ne_nil _ h4
    rw [h3] at hr
    simp only [atPl, List.mem_filter, decide_eq_true_eq] at hr
    exact List.mem_map.2 ⟨r, hr.1, hr.2⟩)
  simpa using h2
theorem RingOK.roots (h : RingOK L W own) (a : Au) (p : Pub) : (∃ q ∈ W, (q.1.1.au = a ∧ q.1.1.n = 0) ∧ q.1.1.p = p) ↔ p ∈ rootsOf own a := by
  simp only [rootsOf, List.mem_map, List.mem_filter, decide_eq_true_eq]
  constructor
  · rintro ⟨q, hq, ⟨h1, h2⟩, h3⟩
    obtain ⟨h4, h5⟩ := h.ids q hq
    obtain ⟨r, hr⟩ := List.exists_mem_of_ne_nil _ h5
    rw [h4] at hr
    simp only [atPl, List.mem_filter, decide_eq_true_eq] at hr
    obtain ⟨h6, h7⟩ := hr
    rw [← h7] at h1 h2 h3
    exact ⟨r, ⟨h6, h1, h2⟩, h3⟩
  · rintro ⟨r, ⟨hr, h1, h2⟩, h3⟩
    obtain ⟨q, hq, he⟩ := h.all r hr
    exact ⟨q, hq, by rw [he]; exact ⟨⟨h1, h2⟩, h3⟩⟩
end
theorem pub_congr {l l' : List Pub} (h : ∀ p, p ∈ l ↔ p ∈ l') : minOf pubLt l = minOf pubLt l' :=
  minOf_congr pubLt (fun a => numLt_irrefl _ _) (fun a b c => numLt_trans) (fun a b c => numLt_weak) h (fun x _ y _ h1 h2 => by
    obtain ⟨e1, e2⟩ := numLt_total h1 h2
    cases x; cases y; simp only at e1 e2; rw [e1, e2])
theorem root_fine {own : List RK} (hok : ∀ r ∈ own, okR r) {a : Au} {p : Pub} (h : minOf pubLt (rootsOf own a) = some p) : fineB p := by
  have := minOf_mem _ h
  simp only [rootsOf, List.mem_map, List.mem_filter, decide_eq_true_eq] at this
  obtain ⟨r, ⟨hr, _⟩, rfl⟩ := this
  exact (hok r hr).2.1
theorem end_next {own : List RK} (hok : ∀ r ∈ own, okR r) {x : Pl} {r : RK} (h : minOf rkLt (atPl own x) = some r) : x.n ≤ 999 ∧ fineB r.q := by
  obtain ⟨h1, h2⟩ := endF_spec (own := own) (x := x) h
  have h3 := hok r h1
  rw [← h2]
  exact ⟨h3.1.2, h3.2.2.1⟩
section
variable {σ : Slots} {φ : Heap} {dst : Option Tmp} {ty : TypeId} {pos : String} {aft : Array Edge} {g : Option (Nat × Bool)}
theorem rd_place {x ix : Operand} {k : Nat} {ws : Array MapEntry} {d : Nat} {W : WMap} {t : PlK} {gp : GV} (h : MapIs plE pvE ws d W) (hw : PlAt W t gp) (hx : ev σ x = some (.map (some k))) (hi : ev σ ix = some (plE t)) [hm : HM k (.map ws d) φ] :
    Rd Tryz.prog σ φ ⟨dst, .lookup 91 x ix false, ty, pos, aft, g⟩ gp.v := by
  rcases hw with ⟨h1, rfl⟩ | ⟨v, h1, rfl⟩
  · exact rd_look_none (c := false) (ek := plE) (en := pvE) Tryz.underlying91 h (fun w => Tryz.zeroValue104 w) h1 hx hi
  · exact rd_look_some (c := false) (ek := plE) (en := pvE) Tryz.underlying91 h h1 hx hi
end
end Go.Proofs.YtheioljidangkaaGreat
