/- Operations played. No conditions. -/
import Derived.Test.YtaagmgpfpaanlaaDrp
import Derived.Test.YtaagmgpfpaanlaaOpn
namespace Go.Proofs.Ytaagmgpfpaanlaa
open Go Go.RowKit Go.Sx
set_option linter.unusedVariables false
set_option linter.unusedSimpArgs false
instance (r : RR) : BuildsS Try.prog 22 1 [(0, .agg (rrC r))] 46 (rrC r) := BuildsS.one Try.underlying22 Try.sizeOf46 rfl rfl Try.zeroValue46 rfl (rrC_size r)
instance : BuildsS Try.prog 22 0 [] 46 #[] := BuildsS.zero Try.underlying22 Try.sizeOf46
instance : BuildsS Try.prog 66 0 [] 3 #[] := BuildsS.zero Try.underlying66 Try.sizeOf3
instance (x : Int) : BuildsS Try.prog 66 1 [(0, I x)] 3 #[I x] := BuildsS.one Try.underlying66 Try.sizeOf3 rfl rfl Try.zeroValue3 rfl rfl
theorem op_at {cs : Array Value} {o : Nat} {ops : List SOp} {j : Nat} {x : SOp} (h : ∀ (j : Nat) (v : Value), (ops.flatMap opL)[j]? = some v → cs[o + j]? = some v) (hx : ops[j]? = some x) : GetAt cs (o + j * 83) (.bool x.drop) ∧ AtR cs (o + j * 83 + 1) x.x := by
  refine ⟨⟨?_⟩, ⟨fun i hi => ?_⟩⟩
  · have h1 := flat_at opL_len ops j 0 x hx (by omega)
    have h2 := h _ _ (h1.trans (rfl : (opL x)[0]? = some (.bool x.drop)))
    simpa using h2
  · have h1 := flat_at opL_len ops j (i + 1) x hx (by omega)
    have hv : (opL x)[i + 1]? = some ((rrC x.x)[i]'(by rw [rrC_size]; exact hi)) := by simp [rrC_size, hi]
    rw [hv] at h1
    have h2 := h _ _ h1
    rw [show o + j * 83 + 1 + i = o + (j * 83 + (i + 1)) by omega, h2]
    simp [rrC_size, hi]
theorem dropO_at {l : List RR} (hn : (l.map RR.id).Nodup) {i : Nat} {x : RR} (hx : l[i]? = some x) : l.take i ++ l.drop (i + 1) = dropO l x.id := by
  have hl : l = l.take i ++ (x :: l.drop (i + 1)) := by rw [← drop_at hx, List.take_append_drop]
  have hn2 := hn
  rw [hl, List.map_append, List.nodup_append] at hn2
  obtain ⟨_, h2, h3⟩ := hn2
  rw [List.map_cons, List.nodup_cons] at h2
  conv => rhs; rw [dropO, hl]
  rw [List.filter_append, List.filter_cons_of_neg (by simp)]
  congr 1
  · refine (List.filter_eq_self.2 fun y hy => ?_).symm
    simp only [Bool.not_eq_true', decide_eq_false_iff_not]
    exact fun e => h3 _ (List.mem_map.2 ⟨y, hy, rfl⟩) _ (List.mem_cons_self ..) e
  · refine (List.filter_eq_self.2 fun y hy => ?_).symm
    simp only [Bool.not_eq_true', decide_eq_false_iff_not]
    exact fun e => h2.1 (e ▸ List.mem_map.2 ⟨y, hy, rfl⟩)
theorem addO_nd {own : List RR} (hn : (own.map RR.id).Nodup) (r : RR) : ((addO own r).map RR.id).Nodup := by
  unfold addO
  split
  · rename_i h
    have hno : ¬ ∃ x ∈ own, x.id = r.id := fun he => by
      unfold addE at h
      rw [if_pos he] at h
      split at h <;> cases h
    rw [List.map_append, List.nodup_append]
    refine ⟨hn, by simp, fun a ha b hb hab => ?_⟩
    obtain ⟨y, hy, rfl⟩ := List.mem_map.1 ha
    simp at hb; subst hb
    exact hno ⟨y, hy, hab⟩
  · exact hn
theorem addO_len (own : List RR) (r : RR) : (addO own r).length ≤ own.length + 1 := by
  unfold addO; split <;> simp
theorem addO_sub (own : List RR) (r : RR) : ∀ x ∈ own, x ∈ addO own r := fun x hx => by
  unfold addO; split <;> simp [hx]
theorem wd_mono {l m : List RR} (h : ∀ x ∈ l, x ∈ m) {id : Id} (hw : wdB l id = true) : wdB m id = true := by
  simp only [wdB, List.any_eq_true, Bool.and_eq_true] at hw ⊢
  obtain ⟨x, hx, h1, y, hy, h2⟩ := hw
  exact ⟨x, h x hx, h1, y, h y hy, h2⟩
/-- what Play has played -/
def Played (φ : Heap) (w w' : World) (u : Value) : Prop := ∃ (p m k : Nat) (es : Array MapEntry) (c : Nat) (ws : Array MapEntry) (d : Nat) (L : RMap) (W : WMap) (νs : Heap) (own : List RR) (v3 : Value) (ν3 : Heap),
  u = .tuple #[ptr p, v3, .bool true] ∧ HpOK (setC p m k es c ws d (νs ++ ν3)) w' ∧ ((setC p m k es c ws d (νs ++ ν3)).map Prod.fst).Nodup ∧ (∀ b ∈ (setC p m k es c ws d (νs ++ ν3)).map Prod.fst, w.heap.size ≤ b) ∧ MapIs idK hrK es c L ∧ MapIs idK wvK ws d W ∧ SetOK νs L W own ∧
  OwnR w.heap.size 46 82 v3 ν3 own.length (own.flatMap rrL) ∧ own.length ≤ 30
end Go.Proofs.Ytaagmgpfpaanlaa
