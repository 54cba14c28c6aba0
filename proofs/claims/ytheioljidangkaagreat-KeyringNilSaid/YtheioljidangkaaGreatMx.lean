/- Maps for the logic of symbolic states: a map's block as a list of pairs over typed keys and values; look-ups, stores, deletions, iteration. No conditions: general lemmas. -/
import Derived.Test.YtheioljidangkaaGreatSx
import Derived.Maps.Range
namespace Go.Sx
open Go Go.RowKit Go.Maps Go.MapKept
open Go.ChangeMaps (setBlock)

class KeyEnc {α : Type} (P : Program) (K : TypeId) (ek : α → Value) : Prop where
  keyed : Keyed P K
  dom : ∀ a, ∃ l, keyOf P K (ek a) = some l
  inj : ∀ a b, ek a = ek b → a = b

section
variable {α β : Type} {ek : α → Value} {en : β → Value} {P : Program}

/-- the map's entries are the pairs of L -/
structure MapIs (ek : α → Value) (en : β → Value) (es : Array MapEntry) (clock : Nat) (L : List (α × β)) : Prop where
  kv : es.toList.map (fun e => (e.key, e.val)) = L.map (fun p => (ek p.1, en p.2))
  st : Stamped es clock
theorem MapIs.empty (ek : α → Value) (en : β → Value) (clock : Nat) : MapIs ek en #[] clock [] := ⟨rfl, stamped_empty clock⟩
theorem MapIs.size {es : Array MapEntry} {clock : Nat} {L : List (α × β)} (h : MapIs ek en es clock L) : es.size = L.length := by
  have := congrArg List.length h.kv
  simpa using this
theorem MapIs.at {es : Array MapEntry} {clock : Nat} {L : List (α × β)} (h : MapIs ek en es clock L) (j : Nat) : (es.toList[j]?).map (fun e => (e.key, e.val)) = (L[j]?).map (fun p => (ek p.1, en p.2)) := by
  have := congrArg (fun l => l[j]?) h.kv
  simpa using this
theorem MapIs.keysNd {es : Array MapEntry} {clock : Nat} {L : List (α × β)} (h : MapIs ek en es clock L) : (L.map Prod.fst).Nodup := by
  have h1 := h.st.2.2
  have e : es.toList.map (·.key) = (L.map Prod.fst).map ek := by
    have := congrArg (List.map Prod.fst) h.kv
    simpa [Function.comp_def] using this
  rw [e] at h1
  exact (List.pairwise_map.1 h1).imp fun h e => h (by rw [e])
theorem MapIs.mem {es : Array MapEntry} {clock : Nat} {L : List (α × β)} (h : MapIs ek en es clock L) {e : MapEntry} (he : e ∈ es.toList) : ∃ p ∈ L, e.key = ek p.1 ∧ e.val = en p.2 := by
  have : (e.key, e.val) ∈ L.map (fun p => (ek p.1, en p.2)) := by rw [← h.kv]; exact List.mem_map.2 ⟨e, he, rfl⟩
  obtain ⟨p, hp, hpe⟩ := List.mem_map.1 this
  simp only [Prod.mk.injEq] at hpe
  exact ⟨p, hp, hpe.1.symm, hpe.2.symm⟩

/-- the look-up, by the decided equality of keys -/
abbrev mlook {α β : Type} [DecidableEq α] (L : List (α × β)) (a : α) : Option β := @List.lookup α β instBEqOfDecidableEq a L
theorem lookup_none [DecidableEq α] {L : List (α × β)} {a : α} : L.lookup a = none ↔ ∀ p ∈ L, p.1 ≠ a := by
  induction L with
  | nil => simp
  | cons p r ih =>
    obtain ⟨k, b⟩ := p
    simp only [List.lookup_cons]
    by_cases h : a = k
    · subst h; simp
    · have : (a == k) = false := by simp [h]
      simp only [this, ih]
      constructor
      · intro h2 p hp
        rcases List.mem_cons.1 hp with rfl | hp
        · exact fun e => h e.symm
        · exact h2 p hp
      · exact fun h2 p hp => h2 p (List.mem_cons_of_mem _ hp)
theorem lookup_some [DecidableEq α] {L : List (α × β)} (hn : (L.map Prod.fst).Nodup) {a : α} {b : β} : L.lookup a = some b ↔ (a, b) ∈ L := by
  induction L with
  | nil => simp
  | cons p r ih =>
    obtain ⟨k, c⟩ := p
    rw [List.map_cons, List.nodup_cons] at hn
    simp only [List.lookup_cons]
    by_cases h : a = k
    · subst h
      simp only [beq_self_eq_true, List.mem_cons, Prod.mk.injEq, true_and]
      constructor
      · intro h; cases h; exact .inl rfl
      · rintro (rfl | h)
        · rfl
        · exact absurd (List.mem_map.2 ⟨_, h, rfl⟩) hn.1
    · have : (a == k) = false := by simp [h]
      simp only [this, ih hn.2, List.mem_cons, Prod.mk.injEq]
      constructor
      · exact .inr
      · rintro (⟨h1, _⟩ | h1)
        · exact absurd h1 h
        · exact h1

theorem keys_dom {K : TypeId} [hk : KeyEnc P K ek] {es : Array MapEntry} {clock : Nat} {L : List (α × β)} (h : MapIs ek en es clock L) : ∀ e ∈ es.toList, ∃ l, keyOf P K e.key = some l := fun e he => by
  obtain ⟨p, _, h1, _⟩ := h.mem he
  rw [h1]; exact hk.dom p.1

/-- where a key is found -/
theorem find_is [DecidableEq α] {K : TypeId} [hk : KeyEnc P K ek] {es : Array MapEntry} {clock : Nat} {L : List (α × β)} (h : MapIs ek en es clock L) (a : α) (w : World) :
    ((Instr.findKey K (ek a) es.toList).run P w = .ok none w ∧ L.lookup a = none ∧ ∀ e ∈ es.toList, e.key ≠ ek a) ∨
    ∃ j e b, (Instr.findKey K (ek a) es.toList).run P w = .ok (some (j, en b)) w ∧ es.toList[j]? = some e ∧ e.key = ek a ∧ e.val = en b ∧ L[j]? = some (a, b) ∧ L.lookup a = some b := by
  obtain ⟨l, hl⟩ := hk.dom a
  rcases hk.keyed.find w hl es.toList (keys_dom h) with ⟨h1, h2⟩ | ⟨j, e, h1, h2, h3⟩
  · refine .inl ⟨h1, lookup_none.2 fun p hp e => ?_, h2⟩
    have : (ek p.1, en p.2) ∈ es.toList.map (fun e => (e.key, e.val)) := by rw [h.kv]; exact List.mem_map.2 ⟨p, hp, rfl⟩
    obtain ⟨e', he', hee⟩ := List.mem_map.1 this
    simp only [Prod.mk.injEq] at hee
    exact h2 e' he' (by rw [hee.1, e])
  · have hat := h.at j
    rw [h2] at hat
    cases hL : L[j]? with
    | none => rw [hL] at hat; cases hat
    | some p =>
      obtain ⟨k, b⟩ := p
      rw [hL] at hat
      simp only [Option.map_some, Option.some.injEq, Prod.mk.injEq] at hat
      have hka : k = a := hk.inj _ _ (by rw [← hat.1, h3])
      subst hka
      refine .inr ⟨j, e, b, by rw [h1, hat.2], h2, h3, hat.2, hL, (lookup_some h.keysNd).2 (List.mem_of_getElem? hL)⟩

theorem run_lookup_none [DecidableEq α] {K E t : TypeId} [hk : KeyEnc P K ek] (ht : P.underlying t = some (.map K E)) {es : Array MapEntry} {clock : Nat} {L : List (α × β)} (h : MapIs ek en es clock L) {m : Nat} {w : World} (hb : w.heap[m]? = some (.map es clock)) {a : α} (ha : L.lookup a = none)
    {z : Value} (hz : ∀ w, (zeroValue E).run P w = .ok z w) (c : Bool) : (Instr.lookup t (.map (some m)) (ek a) c).run P w = .ok (if c then .tuple #[z, .bool false] else z) w := by
  obtain ⟨l, hl⟩ := hk.dom a
  rcases find_is (P := P) (K := K) h a w with ⟨h1, _, _⟩ | ⟨j, e, b, _, _, _, _, _, h6⟩
  · simp [Instr.lookup, run_underlying ht, MapKept.run_getObj_map hb, hk.keyed.check w _ hl, h1, hz, Result.andThen]
  · rw [ha] at h6; cases h6
theorem run_lookup_some [DecidableEq α] {K E t : TypeId} [hk : KeyEnc P K ek] (ht : P.underlying t = some (.map K E)) {es : Array MapEntry} {clock : Nat} {L : List (α × β)} (h : MapIs ek en es clock L) {m : Nat} {w : World} (hb : w.heap[m]? = some (.map es clock)) {a : α} {b : β} (ha : L.lookup a = some b)
    (c : Bool) : (Instr.lookup t (.map (some m)) (ek a) c).run P w = .ok (if c then .tuple #[en b, .bool true] else en b) w := by
  obtain ⟨l, hl⟩ := hk.dom a
  rcases find_is (P := P) (K := K) h a w with ⟨_, h2, _⟩ | ⟨j, e, b', h1, _, _, _, _, h6⟩
  · rw [ha] at h2; cases h2
  · rw [ha] at h6; cases h6
    simp [Instr.lookup, run_underlying ht, MapKept.run_getObj_map hb, hk.keyed.check w _ hl, h1, Result.andThen]

/-- a store into a map, as a list -/
def upd [DecidableEq α] (L : List (α × β)) (a : α) (b : β) : List (α × β) := if L.lookup a = none then L ++ [(a, b)] else L.map (fun p => if p.1 = a then (a, b) else p)
theorem upd_new [DecidableEq α] {L : List (α × β)} {a : α} (h : L.lookup a = none) (b : β) : upd L a b = L ++ [(a, b)] := by simp [upd, h]
theorem set_of_key [DecidableEq α] {L : List (α × β)} (hn : (L.map Prod.fst).Nodup) {j : Nat} {a : α} {b b' : β} (hj : L[j]? = some (a, b)) : L.set j (a, b') = L.map (fun p => if p.1 = a then (a, b') else p) := by
  apply List.ext_getElem?
  intro i
  have hjl := (List.getElem?_eq_some_iff.1 hj).1
  by_cases hij : j = i
  · subst hij
    rw [List.getElem?_set_self hjl, List.getElem?_map, hj]
    simp
  · rw [List.getElem?_set_ne hij, List.getElem?_map]
    cases hi : L[i]? with
    | none => rfl
    | some p =>
      have hne : p.1 ≠ a := fun e => by
        have h1 : (L.map Prod.fst)[i]? = some a := by simp [hi, e]
        have h2 : (L.map Prod.fst)[j]? = some a := by simp [hj]
        exact hij ((List.getElem?_inj (by simpa using hjl) hn).1 (h2.trans h1.symm))
      simp [hne]
theorem run_update [DecidableEq α] {K E t : TypeId} [hk : KeyEnc P K ek] (ht : P.underlying t = some (.map K E)) {es : Array MapEntry} {clock : Nat} {L : List (α × β)} (h : MapIs ek en es clock L) {m : Nat} {w : World} (hb : w.heap[m]? = some (.map es clock)) (a : α) (b : β) :
    ∃ es' clock', (Instr.mapUpdate t (.map (some m)) (ek a) (en b)).run P w = .ok () (World.setBlk w m (.map es' clock')) ∧ MapIs ek en es' clock' (upd L a b) := by
  obtain ⟨l, hl⟩ := hk.dom a
  rcases find_is (P := P) (K := K) h a w with ⟨h1, h2, h3⟩ | ⟨j, e, b', h1, h2, h3, h4, h5, h6⟩
  · refine ⟨es.push { key := ek a, val := en b, born := clock }, clock + 1, ?_, ⟨?_, stamped_push h.st h3⟩⟩
    · simp [Instr.mapUpdate, run_underlying ht, MapKept.run_getObj_map hb, hk.keyed.check w false hl, h1, MapKept.run_setObj_map _ hb, Result.andThen, World.setBlk]
    · rw [upd_new h2]
      simp [h.kv]
  · have hjl : j < es.size := by have := (List.getElem?_eq_some_iff.1 h2).1; simpa using this
    have hj : es[j]? = some e := by simpa using h2
    refine ⟨es.modify j (fun e' => { e' with key := ek a, val := en b }), clock, ?_, ⟨?_, stamped_modify h.st _ _ (fun _ _ => rfl) (fun e' _ he' => ?_)⟩⟩
    · simp [Instr.mapUpdate, run_underlying ht, MapKept.run_getObj_map hb, hk.keyed.check w false hl, h1, hj, h3, hk.keyed.stays w hl, MapKept.run_setObj_map _ hb, Result.andThen, World.setBlk]
    · have e1 : (es.modify j (fun e' => { e' with key := ek a, val := en b })).toList = es.toList.set j { e with key := ek a, val := en b } := by
        rw [Array.toList_modify]
        exact Go.ChangeMaps.modify_eq_set _ _ _ _ h2
      rw [e1, List.map_set, h.kv, upd, if_neg (by rw [h6]; simp), ← set_of_key h.keysNd h5, List.map_set]
    · rw [hj] at he'; cases he'; exact h3.symm
theorem run_del [DecidableEq α] {K E t ty : TypeId} [hk : KeyEnc P K ek] (ht : P.underlying t = some (.map K E)) {es : Array MapEntry} {clock : Nat} {L : List (α × β)} (h : MapIs ek en es clock L) {m : Nat} {w : World} (hb : w.heap[m]? = some (.map es clock)) (a : α) :
    ∃ es', (Builtin.delete_ #[t, K] ty #[.map (some m), ek a]).run P w = .ok (.tuple #[]) (World.setBlk w m (.map es' clock)) ∧ MapIs ek en es' clock (L.filter (fun p => !decide (p.1 = a))) := by
  obtain ⟨l, hl⟩ := hk.dom a
  rcases find_is (P := P) (K := K) h a w with ⟨h1, h2, h3⟩ | ⟨j, e, b', h1, h2, h3, h4, h5, h6⟩
  · refine ⟨es, ?_, ?_⟩
    · simp [Builtin.delete_, run_underlying ht, MapKept.run_getObj_map hb, hk.keyed.check w _ hl, h1, MapKept.run_setObj_map _ hb, Result.andThen, World.setBlk]
    · have : L.filter (fun p => !decide (p.1 = a)) = L := List.filter_eq_self.2 fun p hp => by simpa using lookup_none.1 h2 p hp
      rw [this]; exact h
  · have hjl : j < es.size := by have := (List.getElem?_eq_some_iff.1 h2).1; simpa using this
    have hsub : (es.eraseIdxIfInBounds j).toList = es.toList.eraseIdx j := by
      unfold Array.eraseIdxIfInBounds
      rw [dif_pos hjl]
      simp
    refine ⟨es.eraseIdxIfInBounds j, ?_, ⟨?_, stamped_erase h.st j⟩⟩
    · simp [Builtin.delete_, run_underlying ht, MapKept.run_getObj_map hb, hk.keyed.check w _ hl, h1, MapKept.run_setObj_map _ hb, Result.andThen, World.setBlk]
    · rw [hsub, Go.ChangeMaps.map_eraseIdx, h.kv, ← Go.ChangeMaps.map_eraseIdx]
      congr 1
      symm
      have hjL := (List.getElem?_eq_some_iff.1 h5).1
      have hn := h.keysNd
      have key : ∀ (l : List (α × β)) (j : Nat), (l.map Prod.fst).Nodup → l[j]? = some (a, b') → l.filter (fun p => !decide (p.1 = a)) = l.eraseIdx j := by
        intro l
        induction l with
        | nil => intro j _ hj; simp at hj
        | cons p r ih =>
          intro j hn hj
          rw [List.map_cons, List.nodup_cons] at hn
          cases j with
          | zero =>
            simp at hj
            subst hj
            simp only [List.filter_cons, decide_true, Bool.not_true, Bool.false_eq_true, if_false, List.eraseIdx_zero, List.tail_cons]
            refine List.filter_eq_self.2 fun q hq => ?_
            simp only [Bool.not_eq_true', decide_eq_false_iff_not]
            exact fun e => hn.1 (List.mem_map.2 ⟨q, hq, e⟩)
          | succ j =>
            have hj' : r[j]? = some (a, b') := by simpa using hj
            have hp : p.1 ≠ a := fun e => hn.1 (by rw [e]; exact List.mem_map.2 ⟨_, List.mem_of_getElem? hj', rfl⟩)
            simp only [List.filter_cons, hp, decide_false, Bool.not_false, if_true, List.eraseIdx_cons_succ]
            rw [ih j hn.2 hj']
      exact key L j hn h5

/-! iteration -/
/-- what is still to come -/
structure IterIs (ek : α → Value) (en : β → Value) (es : Array MapEntry) (seen : Array Nat) (R : List (α × β)) : Prop where
  go : (leftOf es seen).toList.map (fun e => (e.key, e.val)) = R.map (fun p => (ek p.1, en p.2))
/-- the entry of the last step -/
structure CurIs (ek : α → Value) (en : β → Value) (es : Array MapEntry) (seen : Array Nat) (p : α × β) : Prop where
  go : ∃ e ∈ es.toList, ∃ s : Array Nat, seen = s.push e.born ∧ e.key = ek p.1 ∧ e.val = en p.2
theorem IterIs.start {es : Array MapEntry} {clock : Nat} {L : List (α × β)} (h : MapIs ek en es clock L) : IterIs ek en es #[] L := ⟨by
  have : leftOf es #[] = es := by simp [leftOf]
  rw [this]; exact h.kv⟩
theorem next_is {es : Array MapEntry} {clock : Nat} {L : List (α × β)} (h : MapIs ek en es clock L) {seen : Array Nat} {R : List (α × β)} (hi : IterIs ek en es seen R) {w : World} {r m : Nat} {c0 : Nat} (ty : TypeId)
    (hr : w.heap[r]? = some (.mapIter (some m) clock seen c0)) (hb : w.heap[m]? = some (.map es clock)) (hc : clock ≤ c0) :
    (R = [] ∧ (Instr.next (.pointer (some ⟨r, 0, none⟩)) false ty).run P w = .ok (.tuple #[.bool false]) w) ∨
    ∃ R1 p R2 seen' w1, R = R1 ++ p :: R2 ∧ IterIs ek en es seen' (R1 ++ R2) ∧ CurIs ek en es seen' p ∧ (w1 = w ∨ w1 = w.drew) ∧
      (Instr.next (.pointer (some ⟨r, 0, none⟩)) false ty).run P w = .ok (.tuple #[.bool true, ek p.1, en p.2]) (World.setBlk w1 r (.mapIter (some m) clock seen' clock)) := by
  rcases run_next_at (P := P) w ty r m clock c0 seen es clock hr hb h.st.1 hc with ⟨h0, hrun⟩ | ⟨e, he, w1, hal, hrun⟩
  · refine .inl ⟨?_, hrun⟩
    have := congrArg List.length hi.go
    simp only [List.length_map, Array.length_toList, h0] at this
    exact List.eq_nil_of_length_eq_zero this.symm
  · obtain ⟨A, B, hAB⟩ := List.append_of_mem he
    have hgo := hi.go
    rw [hAB, List.map_append, List.map_cons] at hgo
    obtain ⟨R1, R', e1, e2, e3⟩ := List.map_eq_append_iff.1 hgo.symm
    obtain ⟨p, R2, e4, e5, e6⟩ := List.map_eq_cons_iff.1 e3
    subst e1; subst e4
    simp only [Prod.mk.injEq] at e5
    obtain ⟨hem, hes⟩ := mem_left he
    refine .inr ⟨R1, p, R2, seen.push e.born, w1, rfl, ⟨?_⟩, ⟨e, hem, seen, rfl, e5.1.symm, e5.2.symm⟩, hal, ?_⟩
    · have hl : (leftOf es (seen.push e.born)).toList = (leftOf es seen).toList.filter (fun x => !(x.born == e.born)) := by
        simp only [leftOf, Array.toList_filter, List.filter_filter]
        refine List.filter_congr fun x _ => ?_
        rw [contains_push]
        cases seen.contains x.born <;> cases (x.born == e.born) <;> rfl
      have hnd : ((leftOf es seen).toList.map (·.born)).Nodup := by
        simp only [leftOf, Array.toList_filter]
        exact h.st.2.1.sublist (List.Sublist.map _ List.filter_sublist)
      rw [hl, hAB]
      rw [hAB, List.map_append, List.map_cons, List.nodup_append, List.nodup_cons] at hnd
      have fA : A.filter (fun x => !(x.born == e.born)) = A := List.filter_eq_self.2 fun x hx => by
        have := hnd.2.2 x.born (List.mem_map.2 ⟨x, hx, rfl⟩) e.born (by simp)
        simpa using this
      have fB : B.filter (fun x => !(x.born == e.born)) = B := List.filter_eq_self.2 fun x hx => by
        have : e.born ≠ x.born := fun e' => hnd.2.1.1 (by rw [e']; exact List.mem_map.2 ⟨x, hx, rfl⟩)
        simpa using fun e' => this e'.symm
      rw [List.filter_append, List.filter_cons, fA, fB]
      simp [e2, e6]
    · rw [hrun, ← e5.1, ← e5.2]
      rfl
theorem entry_is {es : Array MapEntry} {clock since : Nat} {L : List (α × β)} (h : MapIs ek en es clock L) {seen : Array Nat} {p : α × β} (hc : CurIs ek en es seen p) {w : World} {r m : Nat}
    (hr : w.heap[r]? = some (.mapIter (some m) since seen clock)) (hb : w.heap[m]? = some (.map es clock)) : (Instr.entry (.pointer (some ⟨r, 0, none⟩))).run P w = .ok (.tuple #[ek p.1, en p.2]) w := by
  obtain ⟨e, he, s, rfl, h1, h2⟩ := hc.go
  rw [run_entry_at w r m since s es clock e hr hb he h.st.2.1, h1, h2]
end

/-! ### the operations -/
section
variable {α β : Type} {ek : α → Value} {en : β → Value}
variable {κr : Option Nat} {P : Program} {n : Fm} {w0 : World} {S : List Nat} {σ : Slots} {η π φ : Heap} {l : List Oper} {N : Act → World → Prop} {q : List (Nat × Kd)} {late : Bool} {i : Nat}
  {ty : TypeId} {pos : String} {aft : Array Edge} {g : Option (Nat × Bool)} {d : Nat} {dst : Option Tmp}
theorem rd_look_none [DecidableEq α] {K E t : TypeId} {x ix : Operand} {m : Nat} {es : Array MapEntry} {clock : Nat} {L : List (α × β)} {a : α} {z : Value} {c : Bool} [KeyEnc P K ek] (ht : P.underlying t = some (.map K E)) (h : MapIs ek en es clock L) (hz : ∀ w, (zeroValue E).run P w = .ok z w) (ha : L.lookup a = none)
    (hx : ev σ x = some (.map (some m))) (hi : ev σ ix = some (ek a)) [hm : HM m (.map es clock) φ] :
    Rd P σ φ ⟨dst, .lookup t x ix c, ty, pos, aft, g⟩ (if c then .tuple #[z, .bool false] else z) := fun A w hs hp => by
  simp [execOp, hs.ev hx, hs.ev hi, run_lookup_none ht h (hp _ _ hm.go) ha hz c]
theorem rd_look_some [DecidableEq α] {K E t : TypeId} {x ix : Operand} {m : Nat} {es : Array MapEntry} {clock : Nat} {L : List (α × β)} {a : α} {b : β} {c : Bool} [KeyEnc P K ek] (ht : P.underlying t = some (.map K E)) (h : MapIs ek en es clock L) (ha : L.lookup a = some b)
    (hx : ev σ x = some (.map (some m))) (hi : ev σ ix = some (ek a)) [hm : HM m (.map es clock) φ] :
    Rd P σ φ ⟨dst, .lookup t x ix c, ty, pos, aft, g⟩ (if c then .tuple #[en b, .bool true] else en b) := fun A w hs hp => by
  simp [execOp, hs.ev hx, hs.ev hi, run_lookup_some ht h (hp _ _ hm.go) ha c]
theorem rd_look2_none [DecidableEq α] {K E t : TypeId} {x ix : Operand} {m : Nat} {es : Array MapEntry} {clock : Nat} {L : List (α × β)} {a : α} {z : Value} [KeyEnc P K ek] (ht : P.underlying t = some (.map K E)) (h : MapIs ek en es clock L) (hz : ∀ w, (zeroValue E).run P w = .ok z w) (ha : L.lookup a = none)
    (hx : ev σ x = some (.map (some m))) (hi : ev σ ix = some (ek a)) [hm : HM m (.map es clock) φ] :
    Rd P σ φ ⟨dst, .lookup t x ix true, ty, pos, aft, g⟩ (.tuple #[z, .bool false]) := rd_look_none ht h hz ha hx hi
theorem rd_look2_some [DecidableEq α] {K E t : TypeId} {x ix : Operand} {m : Nat} {es : Array MapEntry} {clock : Nat} {L : List (α × β)} {a : α} {b : β} [KeyEnc P K ek] (ht : P.underlying t = some (.map K E)) (h : MapIs ek en es clock L) (ha : L.lookup a = some b)
    (hx : ev σ x = some (.map (some m))) (hi : ev σ ix = some (ek a)) [hm : HM m (.map es clock) φ] :
    Rd P σ φ ⟨dst, .lookup t x ix true, ty, pos, aft, g⟩ (.tuple #[en b, .bool true]) := rd_look_some ht h ha hx hi
theorem rd_lenmap {T K E : TypeId} {x : Operand} {m : Nat} {es : Array MapEntry} {clock : Nat} {L : List (α × β)} (h : MapIs ek en es clock L) (hT : P.underlying T = some (.map K E)) (hx : ev σ x = some (.map (some m))) [hm : HM m (.map es clock) φ] :
    Rd P σ φ ⟨dst, .call { callee := .builtin .len, args := #[x], argTypes := #[T] }, ty, pos, aft, g⟩ (.int .i64 L.length) :=
  rd_builtin (xs := [x]) (vs := [.map (some m)]) (by simp [evs, hx]) fun cs w hp => by
    have hb := hp _ _ hm.go
    have : (Builtin.len_ #[T] ty #[.map (some m)]).run P w = .ok (.int .i64 L.length) w := by
      simp [Builtin.len_, run_underlying hT, MapKept.run_getObj_map hb, goInt, h.size]
    simp [builtin, this]
theorem ws_update [DecidableEq α] {K E t : TypeId} {x ix y : Operand} {m : Nat} {es : Array MapEntry} {clock : Nat} {L : List (α × β)} {a : α} {b : β} {η' : Array MapEntry → Nat → Heap} [KeyEnc P K ek] (ht : P.underlying t = some (.map K E)) (h : MapIs ek en es clock L)
    (ho : opAt l i = some ⟨none, .mapUpdate t x ix y, ty, pos, aft, g⟩) (hg : gd l σ g = some true) (hx : ev σ x = some (.map (some m))) (hi : ev σ ix = some (ek a)) (hy : ev σ y = some (en b)) [hm : HM m (.map es clock) η] [hu : ∀ es' clock', HU m (.map es clock) (.map es' clock') η (η' es' clock')]
    (hb : w0.heap.size ≤ m ∨ m ∈ S) (k : ∀ es' clock', MapIs ek en es' clock' (upd L a b) → WS κr P l [] N n w0 S σ (η' es' clock') q) : WS κr P l [] N n w0 S σ η ((i, .x late) :: q) :=
  ws_x ho hg fun hπ A w hs => by
    obtain ⟨es', clock', hrun, h'⟩ := run_update (P := P) ht h (hs.hp _ _ hm.go) a b
    have hrun' : (execOp A.eval ⟨none, .mapUpdate t x ix y, ty, pos, aft, g⟩).run P w = .ok .skip (World.setBlk w m (.map es' clock')) := by
      simp [execOp, hs.sl.ev hx, hs.sl.ev hi, hs.sl.ev hy, hrun]
    unfold OW
    rw [hrun']
    have hu' := hu es' clock'
    have h1 : St n w0 S σ (η' es' clock') A (World.setBlk w m (.map es' clock')) := ⟨hs.df, hs.sz, hs.sl, hu'.go w hs.hp hs.nd, by rw [hu'.nd]; exact hs.nd, hs.on.setBlk m _ hb⟩
    exact ⟨fun _ b o h => (by cases h), k es' clock' h' (fun _ h => by cases h) A _ h1⟩
theorem ws_delete [DecidableEq α] {K E t : TypeId} {x ix : Operand} {m : Nat} {es : Array MapEntry} {clock : Nat} {L : List (α × β)} {a : α} {η' : Array MapEntry → Heap} [KeyEnc P K ek] (ht : P.underlying t = some (.map K E)) (h : MapIs ek en es clock L)
    (ho : opAt l i = some ⟨none, .call { callee := .builtin .delete, args := #[x, ix], argTypes := #[t, K] }, ty, pos, aft, g⟩) (hg : gd l σ g = some true) (hx : ev σ x = some (.map (some m))) (hi : ev σ ix = some (ek a)) [hm : HM m (.map es clock) η] [hu : ∀ es', HU m (.map es clock) (.map es' clock) η (η' es')]
    (hb : w0.heap.size ≤ m ∨ m ∈ S) (hπ' : ∀ es', ∀ p ∈ π, p ∈ η → p ∈ η' es') (k : ∀ es', MapIs ek en es' clock (L.filter (fun p => !decide (p.1 = a))) → WS κr P l π N n w0 S σ (η' es') q) : WS κr P l π N n w0 S σ η ((i, .x late) :: q) :=
  ws_x ho hg fun hπ A w hs => by
    obtain ⟨es', hrun, h'⟩ := run_del (P := P) (ty := ty) ht h (hs.hp _ _ hm.go) a
    have hrun' : (execOp A.eval ⟨none, .call { callee := .builtin .delete, args := #[x, ix], argTypes := #[t, K] }, ty, pos, aft, g⟩).run P w = .ok (.value (.tuple #[])) (World.setBlk w m (.map es' clock)) := by
      simp only [execOp, resolve, invoke, builtin, Sem.run_bind, Sem.run_pure, Result.andThen_ok, List.map_toArray, List.map_cons, List.map_nil, hs.sl.ev hx, hs.sl.ev hi, hrun]
    unfold OW
    rw [hrun']
    have hu' := hu es'
    have h1 : St n w0 S σ (η' es') A (World.setBlk w m (.map es' clock)) := ⟨hs.df, hs.sz, hs.sl, hu'.go w hs.hp hs.nd, by rw [hu'.nd]; exact hs.nd, hs.on.setBlk m _ hb⟩
    have hsub : ∀ p ∈ π, p ∈ η' es' := fun p hp => hπ' es' p hp (hπ p hp)
    exact ⟨fun _ => h1.hp.mono hsub, k es' h' hsub A _ h1⟩
theorem ws_range {K E t : TypeId} {x : Operand} {m : Nat} {es : Array MapEntry} {clock : Nat} (ht : P.underlying t = some (.map K E)) (ho : opAt l i = some ⟨some d, .range t x, ty, pos, aft, g⟩) (hdn : Nat.blt d n.n = true) (hg : gd l σ g = some true)
    (hx : ev σ x = some (.map (some m))) [hm : HM m (.map es clock) η] (k : ∀ b, w0.heap.size ≤ b → WS κr P l π N n w0 S ((d, .pointer (some ⟨b, 0, none⟩)) :: σ) ((b, .mapIter (some m) clock #[] clock) :: η) q) : WS κr P l π N n w0 S σ η ((i, .x late) :: q) :=
  ws_new (v := fun b => .pointer (some ⟨b, 0, none⟩)) ho hdn hg (fun A w hs hp => by
    simp [execOp, hs.ev hx, Instr.range, run_underlying ht, MapKept.run_getObj_map (hp _ _ hm.go), newObj, Sem.run, Result.andThen]) k
theorem ws_next {x : Operand} {r m : Nat} {es : Array MapEntry} {clock c0 : Nat} {seen : Array Nat} {L R : List (α × β)} {η' : Array Nat → Heap} (h : MapIs ek en es clock L) (hit : IterIs ek en es seen R) (ho : opAt l i = some ⟨some d, .next x false, ty, pos, aft, g⟩) (hdn : Nat.blt d n.n = true) (hg : gd l σ g = some true)
    (hx : ev σ x = some (.pointer (some ⟨r, 0, none⟩))) [hm : HM m (.map es clock) η] [hr : HM r (.mapIter (some m) clock seen c0) η] (hc : clock ≤ c0) [hu : ∀ seen', HU r (.mapIter (some m) clock seen c0) (.mapIter (some m) clock seen' clock) η (η' seen')] (hb : w0.heap.size ≤ r ∨ r ∈ S)
    (k0 : R = [] → WS κr P l [] N n w0 S ((d, .tuple #[.bool false]) :: σ) η q)
    (k1 : ∀ R1 p R2 seen', R = R1 ++ p :: R2 → IterIs ek en es seen' (R1 ++ R2) → CurIs ek en es seen' p → WS κr P l [] N n w0 S ((d, .tuple #[.bool true, ek p.1, en p.2]) :: σ) (η' seen') q) : WS κr P l [] N n w0 S σ η ((i, .x late) :: q) :=
  ws_x ho hg fun hπ A w hs => by
    rcases next_is (P := P) h hit ty (hs.hp _ _ hr.go) (hs.hp _ _ hm.go) hc with ⟨h0, hrun⟩ | ⟨R1, p, R2, seen', w1, e1, e2, e3, hal, hrun⟩
    · unfold OW
      simp only [execOp, hs.sl.ev hx, Sem.run_bind, hrun, Result.andThen_ok, Sem.run_pure, Oper.uponIn_value]
      exact ⟨fun _ b o h => (by cases h), k0 h0 (fun _ h => by cases h) _ _ (hs.put _ hdn)⟩
    · unfold OW
      simp only [execOp, hs.sl.ev hx, Sem.run_bind, hrun, Result.andThen_ok, Sem.run_pure, Oper.uponIn_value]
      have hs1 : St n w0 S σ η A w1 := by
        rcases hal with rfl | rfl
        · exact hs
        · exact hs.drew
      have hu' := hu seen'
      have h1 : St n w0 S σ (η' seen') A (World.setBlk w1 r (.mapIter (some m) clock seen' clock)) := ⟨hs1.df, hs1.sz, hs1.sl, hu'.go w1 hs1.hp hs1.nd, by rw [hu'.nd]; exact hs1.nd, hs1.on.setBlk r _ hb⟩
      exact ⟨fun _ b o h => (by cases h), k1 R1 p R2 seen' e1 e2 e3 (fun _ h => by cases h) _ _ (h1.put _ hdn)⟩
theorem rd_entry {x : Operand} {r m : Nat} {es : Array MapEntry} {clock since : Nat} {seen : Array Nat} {L : List (α × β)} {p : α × β} (h : MapIs ek en es clock L) (hc : CurIs ek en es seen p) (hx : ev σ x = some (.pointer (some ⟨r, 0, none⟩))) [hr : HM r (.mapIter (some m) since seen clock) φ] [hm : HM m (.map es clock) φ] :
    Rd P σ φ ⟨dst, .entry x, ty, pos, aft, g⟩ (.tuple #[ek p.1, en p.2]) := fun A w hs hp => by
  simp [execOp, hs.ev hx, entry_is h hc (hp _ _ hr.go) (hp _ _ hm.go)]
end
end Go.Sx
