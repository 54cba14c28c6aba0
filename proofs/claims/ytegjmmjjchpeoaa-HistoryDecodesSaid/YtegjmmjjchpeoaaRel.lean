/- The map of a history against the reference's rows: what adding, setting and forgetting do to both. No conditions: plain lemmas. -/
import Derived.Test.YtegjmmjjchpeoaaAbs
namespace Go.Proofs.Ytegjmmjjchpeoaa
open Go Go.RowKit Go.Sx
structure Rel (L : HMap) (rows : List Ent) : Prop where
  perm : L.Perm (rows.map fun e => (e.id, e))
  srt : rows.Pairwise (fun x y => idLt x.id y.id)
theorem idLt_ne {a b : Id} (h : idLt a b) : a ≠ b := fun e => by subst e; exact idLt_irrefl a h
theorem Rel.nil : Rel [] [] := ⟨by simp, List.Pairwise.nil⟩
theorem Rel.ids {L : HMap} {rows : List Ent} (h : Rel L rows) : (rows.map Ent.id).Nodup := by
  rw [List.Nodup, List.pairwise_map]
  exact h.srt.imp fun h => idLt_ne h
theorem Rel.keys {L : HMap} {rows : List Ent} (h : Rel L rows) : (L.map Prod.fst).Nodup := by
  have h1 := (h.perm.map Prod.fst).nodup_iff
  rw [h1, List.map_map]
  exact h.ids
theorem Rel.len {L : HMap} {rows : List Ent} (h : Rel L rows) : L.length = rows.length := by
  have := h.perm.length_eq; simpa using this
theorem Rel.look {L : HMap} {rows : List Ent} (h : Rel L rows) (id : Id) (e : Ent) : mlook L id = some e ↔ e ∈ rows ∧ e.id = id := by
  rw [mlook, lookup_some h.keys, h.perm.mem_iff, List.mem_map]
  constructor
  · rintro ⟨y, hy, he⟩
    simp only [Prod.mk.injEq] at he
    obtain ⟨h1, rfl⟩ := he
    exact ⟨hy, h1⟩
  · rintro ⟨h1, rfl⟩
    exact ⟨e, h1, rfl⟩
theorem Rel.look_none {L : HMap} {rows : List Ent} (h : Rel L rows) (id : Id) : mlook L id = none ↔ ∀ y ∈ rows, y.id ≠ id := by
  constructor
  · intro hn y hy he
    rw [(h.look id y).2 ⟨hy, he⟩] at hn
    cases hn
  · intro hn
    cases hl : mlook L id with
    | none => rfl
    | some e => exact absurd ((h.look id e).1 hl).2 (hn e ((h.look id e).1 hl).1)
theorem Rel.isSome {L : HMap} {rows : List Ent} (h : Rel L rows) (id : Id) : (mlook L id).isSome = decide (0 ≤ findF id rows 0) := by
  by_cases hf : 0 ≤ findF id rows 0
  · obtain ⟨j, x, h1, h2, _⟩ := findF_ge (Int.le_refl 0) hf
    rw [(h.look id x).2 ⟨List.mem_of_getElem? h1, h2⟩]
    simp [hf]
  · rw [(h.look_none id).2 (findF_lt (Int.le_refl 0) (by omega))]
    simp [hf]
theorem insF_perm (x : Ent) : ∀ l, (insF x l).Perm (x :: l)
  | [] => by simp [insF]
  | y :: r => by
    simp only [insF]
    split
    · exact ((insF_perm x r).cons y).trans (List.Perm.swap x y r)
    · exact List.Perm.refl _
theorem insF_srt {x : Ent} : ∀ {l : List Ent}, l.Pairwise (fun x y => idLt x.id y.id) → (∀ y ∈ l, y.id ≠ x.id) → (insF x l).Pairwise (fun x y => idLt x.id y.id)
  | [], _, _ => by simp [insF]
  | y :: r, h, hne => by
    rw [List.pairwise_cons] at h
    simp only [insF]
    split
    · rename_i hlt
      rw [List.pairwise_cons]
      refine ⟨fun z hz => ?_, insF_srt h.2 fun z hz => hne z (List.mem_cons_of_mem _ hz)⟩
      rcases List.mem_cons.1 ((insF_perm x r).mem_iff.1 hz) with rfl | hz
      · exact hlt
      · exact h.1 z hz
    · rename_i hlt
      have hxy : idLt x.id y.id := by
        by_cases h2 : idLt x.id y.id
        · exact h2
        · exact absurd (idLt_total hlt h2) (hne y (by simp))
      rw [List.pairwise_cons, List.pairwise_cons]
      refine ⟨fun z hz => ?_, h.1, h.2⟩
      rcases List.mem_cons.1 hz with rfl | hz
      · exact hxy
      · exact idLt_trans hxy (h.1 z hz)
theorem Rel.add {L : HMap} {rows : List Ent} (h : Rel L rows) (x : Ent) (he : addErr (mlook L x.id).isSome x = 0) : Rel (addL L x) (insF x rows) := by
  have hn : mlook L x.id = none := by
    cases hl : mlook L x.id with
    | none => rfl
    | some e =>
      rw [hl] at he
      simp only [addErr, Option.isSome_some] at he
      split at he <;> simp_all
  rw [addL, if_pos he, upd_new hn]
  refine ⟨?_, insF_srt h.srt ((h.look_none _).1 hn)⟩
  refine List.Perm.trans ?_ ((insF_perm x rows).map _).symm
  rw [List.map_cons]
  exact (List.perm_append_singleton _ _).trans (h.perm.cons _)
theorem Rel.add_not {L : HMap} {rows : List Ent} (h : Rel L rows) (x : Ent) (he : addErr (mlook L x.id).isSome x ≠ 0) : Rel (addL L x) rows := by
  rw [addL, if_neg he]; exact h
theorem Rel.addLen {L : HMap} (x : Ent) : (addL L x).length ≤ L.length + 1 := by
  unfold addL upd
  split
  · split <;> simp
  · omega
theorem goneE_mem {id : Id} : ∀ {l : List Ent}, (l.map Ent.id).Nodup → ∀ y ∈ l, y.id = id → goneE id l = (if y.st = 1 then 10 else 0)
  | [], _, _, h, _ => by cases h
  | x :: r, hn, y, hy, he => by
    rw [List.map_cons, List.nodup_cons] at hn
    simp only [goneE]
    rcases List.mem_cons.1 hy with rfl | hy
    · simp [he]
    · have : x.id ≠ id := fun e => hn.1 (by rw [e, ← he]; exact List.mem_map.2 ⟨y, hy, rfl⟩)
      simp only [this, if_false]
      exact goneE_mem hn.2 y hy he
theorem goneE_none {id : Id} : ∀ {l : List Ent}, (∀ y ∈ l, y.id ≠ id) → goneE id l = 8
  | [], _ => rfl
  | x :: r, h => by simp only [goneE, h x (by simp), if_false]; exact goneE_none fun y hy => h y (List.mem_cons_of_mem _ hy)
theorem Rel.goneEq {L : HMap} {rows : List Ent} (h : Rel L rows) (id : Id) : goneErr (mlook L id) = goneE id rows := by
  cases hl : mlook L id with
  | none => rw [goneE_none ((h.look_none id).1 hl)]; rfl
  | some e => rw [goneE_mem h.ids e ((h.look id e).1 hl).1 ((h.look id e).1 hl).2]; rfl
theorem goneF_map {id : Id} : ∀ {l : List Ent}, (l.map Ent.id).Nodup → goneF id l = l.map (fun y => if y.id = id then { y with st := 1 } else y)
  | [], _ => rfl
  | x :: r, hn => by
    rw [List.map_cons, List.nodup_cons] at hn
    simp only [goneF, List.map_cons]
    split
    · rename_i he
      congr 1
      symm
      conv => rhs; rw [← List.map_id r]
      refine List.map_congr_left fun y hy => ?_
      have : y.id ≠ id := fun e => hn.1 (by rw [he, ← e]; exact List.mem_map.2 ⟨y, hy, rfl⟩)
      simp [this]
    · rw [goneF_map hn.2]
theorem Rel.gone {L : HMap} {rows : List Ent} (h : Rel L rows) (id : Id) (he : goneErr (mlook L id) = 0) : Rel (goneL L id) (goneF id rows) := by
  cases hl : mlook L id with
  | none => rw [hl] at he; simp [Ytegjmmjjchpeoaa.goneErr] at he
  | some e =>
    have hst : e.st ≠ 1 := fun e1 => by rw [hl] at he; simp [Ytegjmmjjchpeoaa.goneErr, e1] at he
    obtain ⟨hem, hei⟩ := (h.look id e).1 hl
    have h1 : goneL L id = L.map (fun p => if p.1 = id then (id, { e with st := 1 }) else p) := by
      simp only [goneL, hl, hst, if_false, upd]
      rw [if_neg]
      simp
    rw [h1, goneF_map h.ids]
    refine ⟨?_, ?_⟩
    · refine (h.perm.map _).trans ?_
      rw [List.map_map, List.map_map]
      refine List.Perm.of_eq (List.map_congr_left fun y hy => ?_)
      simp only [Function.comp_apply]
      by_cases hy2 : y.id = id
      · have : y = e := by
          have hh := (h.look id y).2 ⟨hy, hy2⟩
          rw [hl] at hh; cases hh; rfl
        subst this
        simp [hy2]
      · simp [hy2]
    · rw [List.pairwise_map]
      refine h.srt.imp fun {a b} hab => ?_
      have e1 : ∀ y : Ent, (if y.id = id then ({ y with st := 1 } : Ent) else y).id = y.id := fun y => by split <;> rfl
      rw [e1, e1]; exact hab
theorem Rel.gone_not {L : HMap} {rows : List Ent} (h : Rel L rows) (id : Id) (he : goneErr (mlook L id) ≠ 0) : Rel (goneL L id) rows := by
  cases hl : mlook L id with
  | none => simp only [goneL, hl]; exact h
  | some e =>
    have hst : e.st = 1 := by
      by_cases h1 : e.st = 1
      · exact h1
      · rw [hl] at he; simp [Ytegjmmjjchpeoaa.goneErr, h1] at he
    simp only [goneL, hl, hst, if_true]; exact h
theorem goneL_len {L : HMap} (id : Id) : (goneL L id).length ≤ L.length + 1 := by
  unfold goneL
  split
  · omega
  · split
    · omega
    · unfold upd; split <;> simp
theorem goneF_len (id : Id) : ∀ l, (goneF id l).length = l.length
  | [] => rfl
  | x :: r => by simp only [goneF]; split <;> simp [goneF_len id r]
/-- a sorted list of the entries that F picks is the rows that F picks -/
theorem Rel.sorted {L : HMap} {rows gone : List Ent} (h : Rel L rows) (F : Ent → Bool) (hp : gone.Perm ((L.map Prod.snd).filter F)) (hs : gone.Pairwise (fun x y => Go.Proofs.ltOf (fun x y : Ent => cmpId x.id y.id) y x = false)) : gone = rows.filter F := by
  have hp2 : gone.Perm (rows.filter F) := by
    refine hp.trans (List.Perm.filter F ?_)
    have := h.perm.map Prod.snd
    rw [List.map_map] at this
    simpa [Function.comp_def] using this
  refine List.Perm.eq_of_pairwise (le := fun x y => ¬ idLt y.id x.id) (fun a b ha hb h1 h2 => ?_) ?_ ?_ hp2
  · have hid := idLt_total h2 h1
    have ha' := List.mem_filter.1 (hp2.mem_iff.1 ha)
    have hb' := List.mem_filter.1 hb
    have e1 := (h.look a.id a).2 ⟨ha'.1, rfl⟩
    have e2 := (h.look a.id b).2 ⟨hb'.1, hid.symm⟩
    rw [e1] at e2; cases e2; rfl
  · refine hs.imp fun {a b} hab => ?_
    rw [ltId] at hab
    simpa using hab
  · refine (h.srt.sublist List.filter_sublist).imp fun {a b} hab hba => ?_
    exact idLt_irrefl _ (idLt_trans hab hba)
theorem Rel.forget {L : HMap} {rows : List Ent} (h : Rel L rows) (F : Ent → Bool) : Rel (L.filter (fun q => !((rows.filter F).map Ent.id).contains q.1)) (rows.filter (fun x => !F x)) := by
  refine ⟨?_, h.srt.sublist List.filter_sublist⟩
  refine (List.Perm.filter _ h.perm).trans ?_
  rw [List.filter_map]
  refine List.Perm.of_eq (congrArg _ (List.filter_congr fun y hy => ?_))
  simp only [Function.comp_apply]
  congr 1
  rw [Bool.eq_iff_iff, List.contains_iff_mem, List.mem_map]
  constructor
  · rintro ⟨z, hz, he⟩
    obtain ⟨hz1, hz2⟩ := List.mem_filter.1 hz
    have e1 := (h.look y.id z).2 ⟨hz1, he⟩
    have e2 := (h.look y.id y).2 ⟨hy, rfl⟩
    rw [e1] at e2; cases e2; exact hz2
  · intro hF
    exact ⟨y, List.mem_filter.2 ⟨hy, hF⟩, rfl⟩
/-- an operation of a play -/
structure POp where
  kind : UInt8
  x : Ent
abbrev opL (o : POp) : List Value := u8v o.kind :: entL o.x
theorem opL_len (o : POp) : (opL o).length = 37 := by simp [entC_size]
theorem op_at {cs : Array Value} {ol : Nat} {ops : List POp} {j : Nat} {o : POp} (hcs : ∀ j v, (ops.flatMap opL)[j]? = some v → cs[ol + j]? = some v) (ho : ops[j]? = some o) : AtRow cs (ol + j * 37 + 1) o.x ∧ GetAt cs (ol + j * 37) (u8v o.kind) := by
  have key : ∀ i, i < 37 → cs[ol + (j * 37 + i)]? = (opL o)[i]? := fun i hi => by
    have h1 := flat_at opL_len ops j i o ho hi
    have hi' : i < (opL o).length := by rw [opL_len]; exact hi
    rw [List.getElem?_eq_getElem hi'] at h1 ⊢
    exact hcs _ _ h1
  refine ⟨⟨fun i hi => ?_⟩, ⟨?_⟩⟩
  · have := key (i + 1) (by omega)
    rw [show ol + j * 37 + 1 + i = ol + (j * 37 + (i + 1)) by omega, this]
    simp
  · have := key 0 (by omega)
    simpa using this
theorem at_rowid {cur : Array Value} {G : List Ent} {k : Nat} {y : Ent} (hcur : ∀ i, i < G.length * 32 → cur[i]? = (rowL (G.map Ent.id))[i]?) (hy : G[k]? = some y) : ∀ i, i < 32 → cur[k * 32 + i]? = (idC y.id)[i]? := fun i hi => by
  have hk := (List.getElem?_eq_some_iff.1 hy).1
  rw [hcur _ (by omega), flat_at idL_len (G.map Ent.id) k i y.id (by simp [hy]) hi]
  simp
theorem reads_rowid27 {cur : Array Value} {o : Nat} {a : Id} (h : ∀ i, i < 32 → cur[o + i]? = (idC a)[i]?) : ReadsAt Try.prog 27 cur o (idK a) := ReadsAt.agg (k := 32) (idC_size _) h
theorem reads_rowid22 {cur : Array Value} {o : Nat} {a : Id} (h : ∀ i, i < 32 → cur[o + i]? = (idC a)[i]?) : ReadsAt Try.prog 22 cur o (idK a) := ReadsAt.agg (k := 32) (idC_size _) h
theorem nodup_app {ν μ : Heap} {N : Nat} (h1 : (ν.map Prod.fst).Nodup) (h2 : (μ.map Prod.fst).Nodup) (hf : ∀ b ∈ ν.map Prod.fst, N ≤ b) (hm : ∀ b ∈ μ.map Prod.fst, b < N) : ((ν ++ μ).map Prod.fst).Nodup := by
  rw [List.map_append, List.nodup_append]
  exact ⟨h1, h2, fun a ha b hb e => by subst e; have := hf a ha; have := hm a hb; omega⟩
/-- what a play leaves behind -/
theorem addErr_ok {d : Bool} {x : Ent} (h : addErr d x = 0) : checkE x = 0 := by
  unfold addErr at h
  split at h
  · assumption
  · exact h
theorem insF_chk {x : Ent} {rows : List Ent} (h : ∀ y ∈ rows, checkE y = 0) (hx : checkE x = 0) : ∀ y ∈ insF x rows, checkE y = 0 := fun y hy => by
  rcases List.mem_cons.1 ((insF_perm x rows).mem_iff.1 hy) with rfl | hy
  · exact hx
  · exact h y hy
theorem checkE_gone {y : Ent} (h : checkE y = 0) : checkE { y with st := 1 } = 0 := by
  unfold checkE at h ⊢
  split at h
  · rename_i hm; rw [if_pos hm]; simp
  · cases h
theorem goneF_chk {id : Id} : ∀ {rows : List Ent}, (∀ y ∈ rows, checkE y = 0) → ∀ y ∈ goneF id rows, checkE y = 0
  | [], _, y, hy => by simp [goneF] at hy
  | z :: r, h, y, hy => by
    simp only [goneF] at hy
    split at hy
    · rcases List.mem_cons.1 hy with rfl | hy
      · exact checkE_gone (h z (by simp))
      · exact h y (by simp [hy])
    · rcases List.mem_cons.1 hy with rfl | hy
      · exact h _ (by simp)
      · exact goneF_chk (fun y hy => h y (by simp [hy])) y hy
def Played (w : World) (v : Value) (w' : World) : Prop :=
  ∃ (p m : Nat) (cut : Int) (es : Array MapEntry) (clock : Nat) (L : HMap) (rows : List Ent) (vr : Value) (νr : Heap), v = .tuple #[ptr p, vr, I cut, .bool true] ∧ w.heap.size ≤ p ∧ w.heap.size ≤ m ∧ HpOK (histC p m cut es clock νr) w' ∧ ((histC p m cut es clock νr).map Prod.fst).Nodup ∧
    MapIs idK entK es clock L ∧ Rel L rows ∧ rows.length ≤ 40 ∧ (0 ≤ cut ∧ cut ≤ 105190559) ∧ OwnR w.heap.size 24 36 vr νr rows.length (rows.flatMap entL) ∧ ∀ y ∈ rows, checkE y = 0
theorem cut_bounds {cut now : Int} {rows : List Ent} (h : 0 ≤ cut ∧ cut ≤ 105190559) : 0 ≤ (if rows.filter (fun x => forgetB x now) = [] then cut else if cut < now then now else cut) ∧ (if rows.filter (fun x => forgetB x now) = [] then cut else if cut < now then now else cut) ≤ 105190559 := by
  by_cases h0 : rows.filter (fun x => forgetB x now) = []
  · simp [h0]; exact h
  · obtain ⟨x, hx⟩ := List.exists_mem_of_ne_nil _ h0
    have hF := (List.mem_filter.1 hx).2
    simp only [forgetB, Bool.and_eq_true] at hF
    have := minuteB_bounds hF.1
    rw [if_neg h0]
    split <;> omega
/-! the chapter's example -/
abbrev kid : Id := id0.set 0 1
abbrev kx : Ent := ⟨kid, 200, 100, 1, false⟩
theorem kx_add : addL [] kx = [(kid, kx)] := rfl
theorem kx_f1 : forgetB kx 20260 = false := by decide
theorem kx_f2 : forgetB kx 20261 = true := by decide
/-! what never comes back (HistoryOnce) -/
theorem goneF_keeps (id : Id) : ∀ (l : List Ent) (e : Ent), e ∈ l → ∃ e' ∈ goneF id l, e'.id = e.id ∧ e'.date = e.date ∧ e'.perm = e.perm
  | [], _, h => by cases h
  | x :: r, e, h => by
    simp only [goneF]
    rcases List.mem_cons.1 h with rfl | h
    · split
      · exact ⟨_, List.mem_cons_self, rfl, rfl, rfl⟩
      · exact ⟨_, List.mem_cons_self, rfl, rfl, rfl⟩
    · split
      · exact ⟨e, List.mem_cons_of_mem _ h, rfl, rfl, rfl⟩
      · obtain ⟨e', h1, h2⟩ := goneF_keeps id r e h
        exact ⟨e', List.mem_cons_of_mem _ h1, h2⟩
theorem Rel.goneAny {L : HMap} {rows : List Ent} (h : Rel L rows) (id : Id) : ∃ rows', Rel (goneL L id) rows' ∧ rows'.length ≤ rows.length ∧ ∀ e ∈ rows, ∃ e' ∈ rows', e'.id = e.id ∧ e'.date = e.date ∧ e'.perm = e.perm := by
  by_cases he : Ytegjmmjjchpeoaa.goneErr (mlook L id) = 0
  · exact ⟨_, h.gone id he, by rw [goneF_len]; exact Nat.le_refl _, goneF_keeps id rows⟩
  · exact ⟨rows, h.gone_not id he, Nat.le_refl _, fun e h => ⟨e, h, rfl, rfl, rfl⟩⟩
/-- the entry is there, or too old for ever -/
def Held (x : Ent) (rows : List Ent) (cut : Int) : Prop := (∃ e ∈ rows, e.id = x.id ∧ e.date = x.date ∧ e.perm = x.perm) ∨ (x.perm = false ∧ oldB x.date cut = true)
theorem Held.keeps {x : Ent} {rows rows' : List Ent} {cut : Int} (h : Held x rows cut) (hk : ∀ e ∈ rows, ∃ e' ∈ rows', e'.id = e.id ∧ e'.date = e.date ∧ e'.perm = e.perm) : Held x rows' cut := by
  rcases h with ⟨e, h1, h2, h3, h4⟩ | h
  · obtain ⟨e', h5, h6, h7, h8⟩ := hk e h1
    exact .inl ⟨e', h5, h6.trans h2, h7.trans h3, h8.trans h4⟩
  · exact .inr h
theorem Held.forget {x : Ent} {rows : List Ent} {cut : Int} (now : Int) (h : Held x rows cut) : Held x (rows.filter (fun y => !forgetB y now)) (if rows.filter (fun y => forgetB y now) = [] then cut else if cut < now then now else cut) := by
  rcases h with ⟨e, h1, h2, h3, h4⟩ | ⟨h1, h2⟩
  · by_cases hf : forgetB e now = true
    · refine .inr ?_
      have hne : rows.filter (fun y => forgetB y now) ≠ [] := List.ne_nil_of_mem (List.mem_filter.2 ⟨h1, hf⟩)
      rw [if_neg hne]
      simp only [forgetB, goneB, Bool.and_eq_true, Bool.not_eq_true', oldB, decide_eq_true_eq] at hf
      refine ⟨by rw [← h4]; exact hf.2.1.2, ?_⟩
      simp only [oldB, decide_eq_true_eq]
      rw [← h3]
      have := hf.2.2
      split <;> omega
    · exact .inl ⟨e, List.mem_filter.2 ⟨h1, by simp [hf]⟩, h2, h3, h4⟩
  · refine .inr ⟨h1, ?_⟩
    simp only [oldB, decide_eq_true_eq] at h2 ⊢
    split
    · exact h2
    · split <;> omega
theorem Held.judge {x : Ent} {rows : List Ent} {L : HMap} {cut : Int} (hr : Rel L rows) (h : Held x rows cut) (now : Int) : judgeF (mlook L x.id).isSome cut x.date now x.perm ≠ 0 := by
  unfold judgeF
  split
  · rcases h with ⟨e, h1, h2, _⟩ | ⟨h1, h2⟩
    · rw [(hr.look x.id e).2 ⟨h1, h2⟩]
      simp
    · split
      · omega
      · split
        · omega
        · simp [h1, h2]
  · omega
theorem Held.add {x : Ent} {rows : List Ent} {cut : Int} : Held x (insF x rows) cut := .inl ⟨x, (insF_perm x rows).mem_iff.2 List.mem_cons_self, rfl, rfl, rfl⟩
/-- facts of two arguments that may share memory -/
theorem join_facts {ν0 ν2 : Heap} {w : World} (h0 : HpOK ν0 w) (h2 : HpOK ν2 w) (n0 : (ν0.map Prod.fst).Nodup) (n2 : (ν2.map Prod.fst).Nodup) : ∃ μ : Heap, HpOK μ w ∧ (μ.map Prod.fst).Nodup ∧ (∀ p ∈ ν0, p ∈ μ) ∧ ∀ p ∈ ν2, p ∈ μ := by
  refine ⟨ν0 ++ ν2.filter (fun p => !(ν0.map Prod.fst).contains p.1), h0.append (h2.mono fun p hp => (List.mem_filter.1 hp).1), ?_, fun p hp => List.mem_append_left _ hp, fun p hp => ?_⟩
  · rw [List.map_append, List.nodup_append]
    refine ⟨n0, n2.sublist (List.filter_sublist.map _), fun a ha b hb e => ?_⟩
    subst e
    obtain ⟨q, hq, rfl⟩ := List.mem_map.1 hb
    have := (List.mem_filter.1 hq).2
    simp only [Bool.not_eq_true', List.contains_eq_mem, decide_eq_false_iff_not] at this
    exact this ha
  · by_cases hm : p.1 ∈ ν0.map Prod.fst
    · obtain ⟨⟨b, o⟩, hq, hqe⟩ := List.mem_map.1 hm
      obtain ⟨b', o'⟩ := p
      simp only at hqe
      subst hqe
      have e1 := h0 _ _ hq
      have e2 := h2 _ _ hp
      rw [e1] at e2
      cases e2
      exact List.mem_append_left _ hq
    · exact List.mem_append_right _ (List.mem_filter.2 ⟨hp, by simpa using hm⟩)
/-! entries by arrival -/
theorem ltArr_false {x y : Ent} : Go.Proofs.ltOf cmpArr y x = false ↔ ¬ arrLt y x := by
  rw [ltArr]; simp
theorem insA_srt {out : List Ent} {x : Ent} {a : Nat} (hs : out.Pairwise (fun x y => Go.Proofs.ltOf cmpArr y x = false)) (hid : ∀ y ∈ out, idLt y.id x.id) (hgt : ∀ i y, a ≤ i → out[i]? = some y → x.arr < y.arr)
    (hle : a = 0 ∨ ∃ y, out[a - 1]? = some y ∧ y.arr ≤ x.arr) : (out.take a ++ [x] ++ out.drop a).Pairwise (fun x y => Go.Proofs.ltOf cmpArr y x = false) := by
  have hno : ∀ {u v : Ent}, Go.Proofs.ltOf cmpArr v u = false → u.arr ≤ v.arr := fun {u v} h => by
    rw [ltArr_false] at h
    simp only [arrLt, not_or] at h
    omega
  have htk : ∀ u ∈ out.take a, u.arr ≤ x.arr := fun u hu => by
    rcases hle with rfl | ⟨y, hy, hyx⟩
    · simp at hu
    · obtain ⟨i, hi⟩ := List.getElem?_of_mem hu
      rw [List.getElem?_take] at hi
      split at hi
      · rename_i hia
        rcases Nat.lt_or_ge i (a - 1) with h | h
        · have := (List.pairwise_iff_getElem.1 hs) i (a - 1) (List.getElem?_eq_some_iff.1 hi).1 (List.getElem?_eq_some_iff.1 hy).1 h
          rw [(List.getElem?_eq_some_iff.1 hi).2, (List.getElem?_eq_some_iff.1 hy).2] at this
          have := hno this
          omega
        · have : i = a - 1 := by omega
          subst this
          rw [hi] at hy; cases hy; exact hyx
      · cases hi
  have hdr : ∀ u ∈ out.drop a, x.arr < u.arr := fun u hu => by
    obtain ⟨i, hi⟩ := List.getElem?_of_mem hu
    rw [List.getElem?_drop] at hi
    exact hgt _ u (by omega) hi
  rw [List.append_assoc, List.pairwise_append]
  refine ⟨hs.sublist (List.take_sublist a out), ?_, ?_⟩
  · rw [List.singleton_append, List.pairwise_cons]
    refine ⟨fun u hu => ?_, hs.sublist (List.drop_sublist a out)⟩
    rw [ltArr_false]
    have := hdr u hu
    simp only [arrLt, not_or, not_and]
    exact ⟨by omega, fun h => by omega⟩
  · intro u hu v hv
    rw [ltArr_false]
    rcases List.mem_append.1 hv with hv | hv
    · simp at hv; subst hv
      have h1 := htk u hu
      have h2 := hid u (List.mem_of_mem_take hu)
      simp only [arrLt, not_or, not_and]
      exact ⟨by omega, fun _ h => idLt_irrefl _ (idLt_trans h2 h)⟩
    · have h1 := htk u hu
      have h2 := hdr v hv
      simp only [arrLt, not_or, not_and]
      exact ⟨by omega, fun h => by omega⟩
theorem insA_perm {out : List Ent} (x : Ent) (a : Nat) : (out.take a ++ [x] ++ out.drop a).Perm (out ++ [x]) := by
  have h : (out.take a ++ ([x] ++ out.drop a)).Perm (out.take a ++ (out.drop a ++ [x])) := List.Perm.append_left _ List.perm_append_comm
  rw [List.append_assoc]
  refine h.trans ?_
  rw [← List.append_assoc, List.take_append_drop]
/-- two lists of entries of a history by arrival are one -/
theorem Rel.since_unique {L : HMap} {rows ys zs : List Ent} (h : Rel L rows) (F : Ent → Bool) (hy : ys.Perm ((L.map Prod.snd).filter F)) (hys : ys.Pairwise (fun x y => Go.Proofs.ltOf cmpArr y x = false))
    (hz : zs.Perm (rows.filter F)) (hzs : zs.Pairwise (fun x y => Go.Proofs.ltOf cmpArr y x = false)) : ys = zs := by
  have hp2 : ys.Perm (rows.filter F) := by
    refine hy.trans (List.Perm.filter F ?_)
    have := h.perm.map Prod.snd
    rw [List.map_map] at this
    simpa [Function.comp_def] using this
  refine List.Perm.eq_of_pairwise (le := fun x y => ¬ arrLt y x) (fun a b ha hb h1 h2 => ?_) (hys.imp fun h => ltArr_false.1 h) (hzs.imp fun h => ltArr_false.1 h) (hp2.trans hz.symm)
  simp only [arrLt, not_or, not_and] at h1 h2
  have hid := idLt_total (h2.2 (by omega)) (h1.2 (by omega))
  have ha' := List.mem_filter.1 (hp2.mem_iff.1 ha)
  have hb' := List.mem_filter.1 (hz.mem_iff.1 hb)
  have e1 := (h.look a.id a).2 ⟨ha'.1, rfl⟩
  have e2 := (h.look a.id b).2 ⟨hb'.1, hid.symm⟩
  rw [e1] at e2; cases e2; rfl
end Go.Proofs.Ytegjmmjjchpeoaa
