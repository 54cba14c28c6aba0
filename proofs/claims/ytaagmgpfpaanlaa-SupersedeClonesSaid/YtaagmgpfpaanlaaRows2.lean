/- Rows of the two kinds: how their cells are read and stored. No conditions. -/
import Derived.Test.YtaagmgpfpaanlaaEnt
namespace Go.Proofs.Ytaagmgpfpaanlaa
open Go Go.RowKit Go.Sx
set_option linter.unusedSimpArgs false
set_option linter.unusedVariables false

theorem rrC_size (r : RR) : (rrC r).size = 82 := by simp [rrC, idC_size]
class AtR (cur : Array Value) (o : Nat) (r : outParam RR) : Prop where
  go : ∀ i, i < 82 → cur[o + i]? = (rrC r)[i]?
theorem rr_id (r : RR) (j : Nat) (hj : j < 32) : (rrC r)[0 + j]? = (idC r.id)[j]? := by
  simp only [rrC, Array.getElem?_append, Array.size_append, idC_size, List.size_toArray, List.length_cons, List.length_nil]
  repeat' (first | rw [if_neg (by omega)] | rw [if_pos (by omega)])
  all_goals (congr 1; omega)
instance (r : RR) : ReadsAt Try.prog 37 (rrC r) 0 (.agg (idC r.id)) := ReadsAt.agg (k := 32) (idC_size _) (fun j hj => rr_id r j hj)
instance (cur : Array Value) (o : Nat) (r : RR) [h : AtR cur o r] : ReadsAt Try.prog 37 cur o (.agg (idC r.id)) := ReadsAt.agg (k := 32) (idC_size _) (fun j hj => by rw [show o + j = o + (0 + j) by omega, h.go (0 + j) (by omega)]; exact rr_id r j hj)
theorem rr_au (r : RR) (j : Nat) (hj : j < 16) : (rrC r)[32 + j]? = (idC r.au)[j]? := by
  simp only [rrC, Array.getElem?_append, Array.size_append, idC_size, List.size_toArray, List.length_cons, List.length_nil]
  repeat' (first | rw [if_neg (by omega)] | rw [if_pos (by omega)])
  all_goals (congr 1; omega)
instance (r : RR) : ReadsAt Try.prog 39 (rrC r) 32 (.agg (idC r.au)) := ReadsAt.agg (k := 16) (idC_size _) (fun j hj => rr_au r j hj)
instance (cur : Array Value) (o : Nat) (r : RR) [h : AtR cur o r] : ReadsAt Try.prog 39 cur (o + 32) (.agg (idC r.au)) := ReadsAt.agg (k := 16) (idC_size _) (fun j hj => by rw [Nat.add_assoc, h.go (32 + j) (by omega)]; exact rr_au r j hj)
theorem rr_sup (r : RR) (j : Nat) (hj : j < 32) : (rrC r)[49 + j]? = (idC r.sup)[j]? := by
  simp only [rrC, Array.getElem?_append, Array.size_append, idC_size, List.size_toArray, List.length_cons, List.length_nil]
  repeat' (first | rw [if_neg (by omega)] | rw [if_pos (by omega)])
  all_goals (congr 1; omega)
instance (r : RR) : ReadsAt Try.prog 37 (rrC r) 49 (.agg (idC r.sup)) := ReadsAt.agg (k := 32) (idC_size _) (fun j hj => rr_sup r j hj)
instance (cur : Array Value) (o : Nat) (r : RR) [h : AtR cur o r] : ReadsAt Try.prog 37 cur (o + 49) (.agg (idC r.sup)) := ReadsAt.agg (k := 32) (idC_size _) (fun j hj => by rw [Nat.add_assoc, h.go (49 + j) (by omega)]; exact rr_sup r j hj)
theorem rr_at48 (r : RR) : (rrC r)[48]? = some (I r.date) := by
  simp only [rrC, Array.getElem?_append, Array.size_append, idC_size, List.size_toArray, List.length_cons, List.length_nil]
  repeat' (first | rw [if_neg (by omega)] | rw [if_pos (by omega)])
  all_goals rfl
instance (r : RR) : GetAt (rrC r) 48 (I r.date) := ⟨rr_at48 r⟩
instance (cur : Array Value) (o : Nat) (r : RR) [h : AtR cur o r] : GetAt cur (o + 48) (I r.date) := ⟨by rw [h.go 48 (by omega)]; exact rr_at48 r⟩
theorem rr_at81 (r : RR) : (rrC r)[81]? = some (u8v r.grp) := by
  simp only [rrC, Array.getElem?_append, Array.size_append, idC_size, List.size_toArray, List.length_cons, List.length_nil]
  repeat' (first | rw [if_neg (by omega)] | rw [if_pos (by omega)])
  all_goals rfl
instance (r : RR) : GetAt (rrC r) 81 (u8v r.grp) := ⟨rr_at81 r⟩
instance (cur : Array Value) (o : Nat) (r : RR) [h : AtR cur o r] : GetAt cur (o + 81) (u8v r.grp) := ⟨by rw [h.go 81 (by omega)]; exact rr_at81 r⟩
instance (r : RR) : ReadsAt Try.prog 46 (rrC r) 0 (.agg (rrC r)) := ReadsAt.agg (k := 82) (rrC_size r) (fun j _ => by rw [Nat.zero_add])
instance (cur : Array Value) (o : Nat) (r : RR) [h : AtR cur o r] : ReadsAt Try.prog 46 cur o (.agg (rrC r)) := ReadsAt.agg (k := 82) (rrC_size r) (fun j hj => h.go j hj)
theorem rowC_size (r : RR) (g : GV) : (rowC r g).size = 83 := by simp [rowC, idC_size]
class AtW (cur : Array Value) (o : Nat) (r : outParam RR) (g : outParam GV) : Prop where
  go : ∀ i, i < 83 → cur[o + i]? = (rowC r g)[i]?
theorem row_id (r : RR) (g : GV) (j : Nat) (hj : j < 32) : (rowC r g)[0 + j]? = (idC r.id)[j]? := by
  simp only [rowC, Array.getElem?_append, Array.size_append, idC_size, List.size_toArray, List.length_cons, List.length_nil]
  repeat' (first | rw [if_neg (by omega)] | rw [if_pos (by omega)])
  all_goals (congr 1; omega)
instance (r : RR) (g : GV) : ReadsAt Try.prog 38 (rowC r g) 0 (.agg (idC r.id)) := ReadsAt.agg (k := 32) (idC_size _) (fun j hj => row_id r g j hj)
instance (cur : Array Value) (o : Nat) (r : RR) (g : GV) [h : AtW cur o r g] : ReadsAt Try.prog 38 cur o (.agg (idC r.id)) := ReadsAt.agg (k := 32) (idC_size _) (fun j hj => by rw [show o + j = o + (0 + j) by omega, h.go (0 + j) (by omega)]; exact row_id r g j hj)
theorem row_au (r : RR) (g : GV) (j : Nat) (hj : j < 16) : (rowC r g)[32 + j]? = (idC r.au)[j]? := by
  simp only [rowC, Array.getElem?_append, Array.size_append, idC_size, List.size_toArray, List.length_cons, List.length_nil]
  repeat' (first | rw [if_neg (by omega)] | rw [if_pos (by omega)])
  all_goals (congr 1; omega)
instance (r : RR) (g : GV) : ReadsAt Try.prog 40 (rowC r g) 32 (.agg (idC r.au)) := ReadsAt.agg (k := 16) (idC_size _) (fun j hj => row_au r g j hj)
instance (cur : Array Value) (o : Nat) (r : RR) (g : GV) [h : AtW cur o r g] : ReadsAt Try.prog 40 cur (o + 32) (.agg (idC r.au)) := ReadsAt.agg (k := 16) (idC_size _) (fun j hj => by rw [Nat.add_assoc, h.go (32 + j) (by omega)]; exact row_au r g j hj)
theorem row_sup (r : RR) (g : GV) (j : Nat) (hj : j < 32) : (rowC r g)[51 + j]? = (idC r.sup)[j]? := by
  simp only [rowC, Array.getElem?_append, Array.size_append, idC_size, List.size_toArray, List.length_cons, List.length_nil]
  repeat' (first | rw [if_neg (by omega)] | rw [if_pos (by omega)])
  all_goals (congr 1; omega)
instance (r : RR) (g : GV) : ReadsAt Try.prog 38 (rowC r g) 51 (.agg (idC r.sup)) := ReadsAt.agg (k := 32) (idC_size _) (fun j hj => row_sup r g j hj)
instance (cur : Array Value) (o : Nat) (r : RR) (g : GV) [h : AtW cur o r g] : ReadsAt Try.prog 38 cur (o + 51) (.agg (idC r.sup)) := ReadsAt.agg (k := 32) (idC_size _) (fun j hj => by rw [Nat.add_assoc, h.go (51 + j) (by omega)]; exact row_sup r g j hj)
theorem row_at48 (r : RR) (g : GV) : (rowC r g)[48]? = some (I r.date) := by
  simp only [rowC, Array.getElem?_append, Array.size_append, idC_size, List.size_toArray, List.length_cons, List.length_nil]
  repeat' (first | rw [if_neg (by omega)] | rw [if_pos (by omega)])
  all_goals rfl
instance (r : RR) (g : GV) : GetAt (rowC r g) 48 (I r.date) := ⟨row_at48 r g⟩
instance (cur : Array Value) (o : Nat) (r : RR) (g : GV) [h : AtW cur o r g] : GetAt cur (o + 48) (I r.date) := ⟨by rw [h.go 48 (by omega)]; exact row_at48 r g⟩
theorem row_at49 (r : RR) (g : GV) : (rowC r g)[49]? = some (g.v) := by
  simp only [rowC, Array.getElem?_append, Array.size_append, idC_size, List.size_toArray, List.length_cons, List.length_nil]
  repeat' (first | rw [if_neg (by omega)] | rw [if_pos (by omega)])
  all_goals rfl
instance (r : RR) (g : GV) : GetAt (rowC r g) 49 (g.v) := ⟨row_at49 r g⟩
instance (cur : Array Value) (o : Nat) (r : RR) (g : GV) [h : AtW cur o r g] : GetAt cur (o + 49) (g.v) := ⟨by rw [h.go 49 (by omega)]; exact row_at49 r g⟩
theorem row_at50 (r : RR) (g : GV) : (rowC r g)[50]? = some (.slice none 0 0) := by
  simp only [rowC, Array.getElem?_append, Array.size_append, idC_size, List.size_toArray, List.length_cons, List.length_nil]
  repeat' (first | rw [if_neg (by omega)] | rw [if_pos (by omega)])
  all_goals rfl
instance (r : RR) (g : GV) : GetAt (rowC r g) 50 (.slice none 0 0) := ⟨row_at50 r g⟩
instance (cur : Array Value) (o : Nat) (r : RR) (g : GV) [h : AtW cur o r g] : GetAt cur (o + 50) (.slice none 0 0) := ⟨by rw [h.go 50 (by omega)]; exact row_at50 r g⟩
instance (r : RR) (g : GV) : ReadsAt Try.prog 43 (rowC r g) 0 (.agg (rowC r g)) := ReadsAt.agg (k := 83) (rowC_size r g) (fun j _ => by rw [Nat.zero_add])
instance (cur : Array Value) (o : Nat) (r : RR) (g : GV) [h : AtW cur o r g] : ReadsAt Try.prog 43 cur o (.agg (rowC r g)) := ReadsAt.agg (k := 83) (rowC_size r g) (fun j hj => h.go j hj)
abbrev rrL (r : RR) : List Value := (rrC r).toList
theorem rrL_len (r : RR) : (rrL r).length = 82 := by simp [rrC_size]
abbrev hrL (x : HR) : List Value := (rowC x.r x.g).toList
theorem hrL_len (x : HR) : (hrL x).length = 83 := by simp [rowC_size]
theorem rrC_one (r : RR) : ∀ u ∈ (rrC r).toList, u.oneCell' = true := by
  intro u hu
  simp only [rrC, Array.toList_append, List.mem_append] at hu
  rcases hu with hu | hu | hu | hu | hu | hu
  · exact idC_one _ u hu
  · exact idC_one _ u hu
  · simp at hu; subst hu; rfl
  · exact idC_one _ u hu
  · simp at hu; subst hu; rfl
  · simp at hu
theorem rowC_one (r : RR) (g : GV) : ∀ u ∈ (rowC r g).toList, u.oneCell' = true := by
  intro u hu
  simp only [rowC, Array.toList_append, List.mem_append] at hu
  rcases hu with hu | hu | hu | hu | hu | hu | hu
  · exact idC_one _ u hu
  · exact idC_one _ u hu
  · simp at hu; subst hu; rfl
  · simp at hu; subst hu; rfl
  · simp at hu; subst hu; rfl
  · exact idC_one _ u hu
  · simp at hu
instance (x y : RR) : WritesAt Try.prog 46 (rrC x) 0 (.agg (rrC y)) (rrC y) := WritesAt.whole Try.sizeOf46 (rrC_size _) (rrC_size _) (rrC_one _)
instance (x y : RR) (g g' : GV) : WritesAt Try.prog 43 (rowC x g) 0 (.agg (rowC y g')) (rowC y g') := WritesAt.whole Try.sizeOf43 (rowC_size _ _) (rowC_size _ _) (rowC_one _ _)
instance (x y : Vector UInt8 32) : WritesAt Try.prog 37 (idC x) 0 (.agg (idC y)) (idC y) := WritesAt.whole Try.sizeOf37 (idC_size _) (idC_size _) (idC_one _)
instance (x y : Vector UInt8 32) : WritesAt Try.prog 38 (idC x) 0 (.agg (idC y)) (idC y) := WritesAt.whole Try.sizeOf38 (idC_size _) (idC_size _) (idC_one _)
instance (x : Vector UInt8 32) : ReadsAt Try.prog 37 (idC x) 0 (.agg (idC x)) := ReadsAt.agg (k := 32) (idC_size _) (fun j _ => by rw [Nat.zero_add])
instance (x : Vector UInt8 32) : ReadsAt Try.prog 38 (idC x) 0 (.agg (idC x)) := ReadsAt.agg (k := 32) (idC_size _) (fun j _ => by rw [Nat.zero_add])
theorem sR (A B vs : Array Value) (k m : Nat) (h : m = A.size + k) : splice (A ++ B) m vs = A ++ splice B k vs := splice_right A B vs k m h
theorem sL (A B vs : Array Value) (h : vs.size = A.size) : splice (A ++ B) 0 vs = vs ++ B := splice_left A B vs h
theorem set49 (a : Id) (b : Au) (c x y : Value) (R : Array Value) : splice (idC a ++ (idC b ++ (#[c] ++ (#[x] ++ R)))) 49 #[y] = idC a ++ (idC b ++ (#[c] ++ (#[y] ++ R))) := by
  rw [sR _ _ _ 17 49 (by rw [idC_size]), sR _ _ _ 1 17 (by rw [idC_size]), sR _ _ _ 0 1 rfl, sL #[x] R #[y] rfl]
theorem set50 (a : Id) (b : Au) (c d x y : Value) (R : Array Value) : splice (idC a ++ (idC b ++ (#[c] ++ (#[d] ++ (#[x] ++ R))))) 50 #[y] = idC a ++ (idC b ++ (#[c] ++ (#[d] ++ (#[y] ++ R)))) := by
  rw [sR _ _ _ 18 50 (by rw [idC_size]), sR _ _ _ 2 18 (by rw [idC_size]), sR _ _ _ 1 2 rfl, sR _ _ _ 0 1 rfl, sL #[x] R #[y] rfl]
theorem set48 (a : Id) (b : Au) (x y : Value) (R : Array Value) : splice (idC a ++ (idC b ++ (#[x] ++ R))) 48 #[y] = idC a ++ (idC b ++ (#[y] ++ R)) := by
  rw [sR _ _ _ 16 48 (by rw [idC_size]), sR _ _ _ 0 16 (by rw [idC_size]), sL #[x] R #[y] rfl]
theorem set32 (a : Id) (b b' : Au) (R : Array Value) : splice (idC a ++ (idC b ++ R)) 32 (idC b') = idC a ++ (idC b' ++ R) := by
  rw [sR _ _ _ 0 32 (by rw [idC_size]), sL _ _ _ (by rw [idC_size, idC_size])]
theorem set0 (a a' : Id) (R : Array Value) : splice (idC a ++ R) 0 (idC a') = idC a' ++ R := sL _ _ _ (by rw [idC_size, idC_size])
theorem set51 (a : Id) (b : Au) (c d e : Value) (s s' : Id) (R : Array Value) : splice (idC a ++ (idC b ++ (#[c] ++ (#[d] ++ (#[e] ++ (idC s ++ R)))))) 51 (idC s') = idC a ++ (idC b ++ (#[c] ++ (#[d] ++ (#[e] ++ (idC s' ++ R))))) := by
  rw [sR _ _ _ 19 51 (by rw [idC_size]), sR _ _ _ 3 19 (by rw [idC_size]), sR _ _ _ 2 3 rfl, sR _ _ _ 1 2 rfl, sR _ _ _ 0 1 rfl, sL _ _ _ (by rw [idC_size, idC_size])]
theorem set49r (a : Id) (b : Au) (c : Value) (s s' : Id) (R : Array Value) : splice (idC a ++ (idC b ++ (#[c] ++ (idC s ++ R)))) 49 (idC s') = idC a ++ (idC b ++ (#[c] ++ (idC s' ++ R))) := by
  rw [sR _ _ _ 17 49 (by rw [idC_size]), sR _ _ _ 1 17 (by rw [idC_size]), sR _ _ _ 0 1 rfl, sL _ _ _ (by rw [idC_size, idC_size])]
instance (r : RR) (g g' : GV) : SetAt (rowC r g) 49 g'.v (rowC r g') := ⟨by rw [rowC_size]; omega, (set49 r.id r.au _ g.v g'.v _).symm⟩
instance (r : RR) (g : GV) (A : Option Addr) (n c : Nat) : SetAt (rowC r g) 49 (.slice A n c) (rowC r ⟨A, n, c⟩) := ⟨by rw [rowC_size]; omega, (set49 r.id r.au _ g.v _ _).symm⟩
instance (r : RR) (g : GV) : SetAt (rowC r g) 50 (.slice none 0 0) (rowC r g) := ⟨by rw [rowC_size]; omega, (set50 r.id r.au _ g.v _ _ _).symm⟩
instance (r : RR) (x : Id) : WritesAt Try.prog 37 (rrC r) 49 (.agg (idC x)) (rrC { r with sup := x }) := WritesAt.of Try.sizeOf37 (idC_size _) (idC_one _) (by rw [rrC_size]; omega) (by
  have h : rrC { r with sup := x } = splice (rrC r) 49 (idC x) := (set49r r.id r.au _ r.sup x _).symm
  rw [h, splice, idC_size]; rfl)
set_option maxRecDepth 100000 in
instance : ZeroOf Try.prog 43 (rowC r0 gnil) := ⟨_, Try.zeroValue43, by simp only [rowC, r0, gnil, GV.v]; rw [idC0, auC0]; rfl⟩
set_option maxRecDepth 100000 in
instance : ZeroOf Try.prog 46 (rrC r0) := ⟨_, Try.zeroValue46, by simp only [rrC, r0]; rw [idC0, auC0]; rfl⟩
set_option maxRecDepth 100000 in
theorem zero43 (w : World) : (zeroValue 43).run Try.prog w = .ok (.agg (rowC r0 gnil)) w := by rw [Try.zeroValue43]; simp only [rowC, r0, gnil, GV.v]; rw [idC0, auC0]; rfl
theorem row_fill (id : Id) (au : Au) (d : Int) (sup : Id) (m : UInt8) : fillS (rowC r0 gnil) [(0, idC id), (32, idC au), (48, #[I d]), (51, idC sup)] = rowC ⟨id, au, d, sup, m⟩ gnil := by
  simp only [fillS, rowC]
  rw [set0, set32, set48, set51]
theorem row_fill3 (id : Id) (d : Int) (sup : Id) (m : UInt8) : fillS (rowC r0 gnil) [(0, idC id), (48, #[I d]), (51, idC sup)] = rowC ⟨id, au0, d, sup, m⟩ gnil := by
  simp only [fillS, rowC]
  rw [set0, set48, set51]; rfl
theorem row_fill2 (id : Id) (d : Int) (m : UInt8) : fillS (rowC r0 gnil) [(0, idC id), (48, #[I d])] = rowC ⟨id, au0, d, id0, m⟩ gnil := by
  simp only [fillS, rowC]
  rw [set0, set48]; rfl
def lay43 : Array (Nat × Nat) := #[(0, 32), (32, 16), (48, 1), (49, 1), (50, 1), (51, 32)]
instance (id : Id) (au : Au) (d : Int) (sup : Id) : Builds Try.prog 43 [(0, .agg (idC id)), (1, .agg (idC au)), (2, I d), (5, .agg (idC sup))] (rowC ⟨id, au, d, sup, 0⟩ gnil) :=
  Builds.struct inferInstance Try.underlying43 (by kernel_rfl) lay43 (by kernel_rfl) _ (by simp [placed, lay43, Value.cells, idC_size]) (by simp [rowC_size, idC_size]) (row_fill id au d sup 0)
instance (id : Id) (d : Int) (sup : Id) : Builds Try.prog 43 [(0, .agg (idC id)), (2, I d), (5, .agg (idC sup))] (rowC ⟨id, au0, d, sup, 0⟩ gnil) :=
  Builds.struct inferInstance Try.underlying43 (by kernel_rfl) lay43 (by kernel_rfl) _ (by simp [placed, lay43, Value.cells, idC_size]) (by simp [rowC_size, idC_size]) (row_fill3 id d sup 0)
instance (id : Id) (d : Int) : Builds Try.prog 43 [(0, .agg (idC id)), (2, I d)] (rowC ⟨id, au0, d, id0, 0⟩ gnil) :=
  Builds.struct inferInstance Try.underlying43 (by kernel_rfl) lay43 (by kernel_rfl) _ (by simp [placed, lay43, Value.cells, idC_size]) (by simp [rowC_size, idC_size]) (row_fill2 id d 0)
instance : Builds Try.prog 43 [] (rowC r0 gnil) :=
  Builds.struct inferInstance Try.underlying43 (by kernel_rfl) lay43 (by kernel_rfl) [] (by simp [placed, lay43]) (by simp) rfl
instance (x : Id) : BytesAt (idC x) 0 32 x.toList := ⟨by simp, fun j y hj => by
  have hj' : j < 32 := by have := (List.getElem?_eq_some_iff.1 hj).1; simpa using this
  rw [Nat.zero_add, idC_at x j hj']
  have := (List.getElem?_eq_some_iff.1 hj).2
  simp at this
  rw [← this]; rfl⟩
theorem bytes_part {cs : Array Value} {o : Nat} {x : Id} (h : ∀ j, j < 32 → cs[o + j]? = (idC x)[j]?) : BytesAt cs o 32 x.toList := ⟨by simp, fun j y hj => by
  have hj' : j < 32 := by have := (List.getElem?_eq_some_iff.1 hj).1; simpa using this
  rw [h j hj', ← Nat.zero_add j]
  exact (inferInstance : BytesAt (idC x) 0 32 x.toList).go j y hj⟩
instance (r : RR) (g : GV) : BytesAt (rowC r g) 0 32 r.id.toList := bytes_part (fun j hj => row_id r g j hj)
instance (r : RR) : BytesAt (rrC r) 0 32 r.id.toList := bytes_part (fun j hj => rr_id r j hj)
theorem at_r {cur : Array Value} {o : Nat} {rows : List RR} {j : Nat} {r : RR} (hcur : ∀ i v, (rows.flatMap rrL)[i]? = some v → cur[o + i]? = some v) (hx : rows[j]? = some r) : AtR cur (o + j * 82) r := ⟨fun i hi => by
  have h1 := flat_at rrL_len rows j i r hx hi
  have hv : (rrL r)[i]? = some ((rrC r)[i]'(by rw [rrC_size]; exact hi)) := by simp [rrC_size, hi]
  rw [hv] at h1
  rw [Nat.add_assoc, hcur _ _ h1]
  simp [rrC_size, hi]⟩
theorem at_w {cur : Array Value} {o : Nat} {rows : List HR} {j : Nat} {x : HR} (hcur : ∀ i v, (rows.flatMap hrL)[i]? = some v → cur[o + i]? = some v) (hx : rows[j]? = some x) : AtW cur (o + j * 83) x.r x.g := ⟨fun i hi => by
  have h1 := flat_at hrL_len rows j i x hx hi
  have hv : (hrL x)[i]? = some ((rowC x.r x.g)[i]'(by rw [rowC_size]; exact hi)) := by simp [rowC_size, hi]
  rw [hv] at h1
  rw [Nat.add_assoc, hcur _ _ h1]
  simp [rowC_size, hi]⟩


end Go.Proofs.Ytaagmgpfpaanlaa
