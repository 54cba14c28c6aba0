/- More operations: shifts, bits, nil tests of maps and slices, interface values, native calls that lay a block, arrays by index, parts of slices, a map's entry opened and stored. No conditions: general lemmas. -/
import Derived.Test.YtheioljidangkaaGreatYx
import Derived.Laws.CopyRow
namespace Go.Sx
open Go Go.RowKit Go.Maps Go.MapKept
section
variable {P : Program} {σ : Slots} {φ : Heap} {dst : Option Tmp} {ty : TypeId} {pos : String} {aft : Array Edge} {g : Option (Nat × Bool)}
theorem rd_shr {T U : TypeId} {x y : Operand} {k k' : IntKind} {m n : Int} (z : Int) (hx : ev σ x = some (.int k m)) (hy : ev σ y = some (.int k' n)) (hn : 0 ≤ n) (hz : m.fdiv (2 ^ min n.toNat k.bits) = z) : Rd P σ φ ⟨dst, .binOp .shr T x y U, ty, pos, aft, g⟩ (.int k z) := fun a w hs _ => by
  subst hz
  have h : ¬ n < 0 := by omega
  simp [execOp, hs.ev hx, hs.ev hy, eqGuard, binOp, Op.shift, h]
theorem rd_shl {T U : TypeId} {x y : Operand} {k k' : IntKind} {m n : Int} (z : Int) (hx : ev σ x = some (.int k m)) (hy : ev σ y = some (.int k' n)) (hn : 0 ≤ n) (hz : k.wrap (m * 2 ^ min n.toNat k.bits) = z) : Rd P σ φ ⟨dst, .binOp .shl T x y U, ty, pos, aft, g⟩ (.int k z) := fun a w hs _ => by
  subst hz
  have h : ¬ n < 0 := by omega
  simp [execOp, hs.ev hx, hs.ev hy, eqGuard, binOp, Op.shift, h]
def bitsI (op : BinOp) (k : IntKind) (x y : Int) : Option Int :=
  match op with
  | .and => some (k.wrap (BitVec.ofInt k.bits x &&& BitVec.ofInt k.bits y).toNat)
  | .or => some (k.wrap (BitVec.ofInt k.bits x ||| BitVec.ofInt k.bits y).toNat)
  | .xor => some (k.wrap (BitVec.ofInt k.bits x ^^^ BitVec.ofInt k.bits y).toNat)
  | _ => none
theorem rd_bits {op : BinOp} {T U : TypeId} {x y : Operand} {k : IntKind} {m n : Int} (z : Int) (hx : ev σ x = some (.int k m)) (hy : ev σ y = some (.int k n)) (hz : bitsI op k m n = some z) : Rd P σ φ ⟨dst, .binOp op T x y U, ty, pos, aft, g⟩ (.int k z) := fun a w hs _ => by
  cases op <;> simp [bitsI] at hz <;> subst hz <;> simp [execOp, hs.ev hx, hs.ev hy, eqGuard, binOp, Op.intBits]
theorem rd_mapnil {op : BinOp} {T U K E : TypeId} {x y : Operand} {p : Option Nat} {b : Bool} (hx : ev σ x = some (.map p)) (hy : ev σ y = some (.map none)) (hT : P.underlying T = some (.map K E))
    (hb : (match op with | .eql => some p.isNone | .neq => some (!p.isNone) | _ => none) = some b) : Rd P σ φ ⟨dst, .binOp op T x y U, ty, pos, aft, g⟩ (.bool b) :=
  rd_bin hx hy fun w => by
    have h : ∀ d, (Op.equalIn (d + 1) T (.map p) (.map none)).run P w = .ok p.isNone w := fun d => by cases p <;> simp [Op.equalIn, run_underlying hT]
    have h' : (Op.equal T (.map p) (.map none)).run P w = .ok p.isNone w := h 9999
    cases op <;> simp at hb <;> subst hb <;> simp [eqGuard, binOp, h']
theorem rd_slicenil {op : BinOp} {T U E : TypeId} {x y : Operand} {A : Option Addr} {m c : Nat} {b : Bool} (hx : ev σ x = some (.slice A m c)) (hy : ev σ y = some (.slice none 0 0)) (hT : P.underlying T = some (.slice E))
    (hb : (match op with | .eql => some A.isNone | .neq => some (!A.isNone) | _ => none) = some b) : Rd P σ φ ⟨dst, .binOp op T x y U, ty, pos, aft, g⟩ (.bool b) :=
  rd_bin hx hy fun w => by
    have h : ∀ d, (Op.equalIn (d + 1) T (.slice A m c) (.slice none 0 0)).run P w = .ok A.isNone w := fun d => by cases A <;> simp [Op.equalIn, run_underlying hT]
    have h' : (Op.equal T (.slice A m c) (.slice none 0 0)).run P w = .ok A.isNone w := h 9999
    cases op <;> simp at hb <;> subst hb <;> simp [eqGuard, binOp, h']
theorem rd_streq_t {T U : TypeId} {x y : Operand} {a b : ByteArray} (hx : ev σ x = some (.string a)) (hy : ev σ y = some (.string b)) (h : a = b) : Rd P σ φ ⟨dst, .binOp .eql T x y U, ty, pos, aft, g⟩ (.bool true) :=
  rd_bin hx hy fun w => by
    subst h
    simp [eqGuard, binOp, Op.stringOp]
theorem rd_bneq {T U : TypeId} {x y : Operand} {a b : Bool} (hx : ev σ x = some (.bool a)) (hy : ev σ y = some (.bool b)) (hT : P.underlying T = some .bool) (h : a = b) : Rd P σ φ ⟨dst, .binOp .neq T x y U, ty, pos, aft, g⟩ (.bool false) :=
  rd_bin hx hy fun w => by
    subst h
    have h : ∀ d, (Op.equalIn (d + 1) T (.bool a) (.bool a)).run P w = .ok true w := fun d => by simp [Op.equalIn, run_underlying hT]
    have h' : (Op.equal T (.bool a) (.bool a)).run P w = .ok true w := h 9999
    simp [eqGuard, binOp, h']
theorem rd_iface {T : TypeId} {x : Operand} {v : Value} (hx : ev σ x = some v) (hr : ∀ w, (Instr.makeInterface T v).run P w = .ok (.iface T v) w) : Rd P σ φ ⟨dst, .makeInterface T x, ty, pos, aft, g⟩ (.iface T v) := fun a w hs _ => by
  simp [execOp, hs.ev hx, hr]
theorem run_iface_map {T K E : TypeId} {v : Value} (hT : P.underlying T = some (.map K E)) (w : World) : (Instr.makeInterface T v).run P w = .ok (.iface T v) w := by
  simp [Instr.makeInterface, run_underlying hT]
theorem rd_assert {s t : TypeId} {x : Operand} {u v : Value} {c : Bool} (hx : ev σ x = some u) (hr : ∀ w, (Instr.typeAssert u s t c).run P w = .ok v w) : Rd P σ φ ⟨dst, .typeAssert x s t c, ty, pos, aft, g⟩ v := fun a w hs _ => by
  simp [execOp, hs.ev hx, hr]
theorem run_assert_map {s t K E : TypeId} {v : Value} (hT : P.underlying t = some (.map K E)) (w : World) : (Instr.typeAssert (.iface t v) s t false).run P w = .ok v w := by
  simp [Instr.typeAssert, run_underlying hT, go_sem, Result.andThen]
theorem rd_toArr {T E : TypeId} {x : Operand} {A : Option Addr} {n m c : Nat} (hx : ev σ x = some (.slice A m c)) (hT : P.underlying T = some (.array n E)) (hn : n ≤ m) : Rd P σ φ ⟨dst, .sliceToArrayPointer T x, ty, pos, aft, g⟩ (.pointer A) := fun a w hs _ => by
  have h : ¬ m < n := by omega
  simp [execOp, hs.ev hx, Instr.arrayAt, run_underlying hT, h]
/-- an element of an array's value -/
theorem rd_indexArr {T E : TypeId} {x ix : Operand} {cs : Array Value} {n : Nat} {kd : IntKind} {j : Int} {v : Value} (hx : ev σ x = some (.agg cs)) (hi : ev σ ix = some (.int kd j)) (hT : P.underlying T = some (.array n E)) (hE : ∀ w, (sizeOf E).run P w = .ok 1 w) (hA : ∀ w, (isAgg E).run P w = .ok false w)
    (hj : 0 ≤ j ∧ j < n) (hv : cs[j.toNat]? = some v) : Rd P σ φ ⟨dst, .index T x ix, ty, pos, aft, g⟩ v := fun a w hs _ => by
  simp [execOp, hs.ev hx, hs.ev hi, Instr.index, asIntOf, run_underlying hT, hj.1, hj.2, hE, part, hA, hv]
/-- x[lo:hi:hi] -/
theorem rd_slice3 {T E : TypeId} {x l h m : Operand} {b o len cap k : Nat} {kl kh km : IntKind} {i j : Nat} (r e : Nat) (hT : P.underlying T = some (.slice E)) (hx : ev σ x = some (.slice (some ⟨b, o, none⟩) len cap)) (hl : ev σ l = some (.int kl i)) (hh : ev σ h = some (.int kh j)) (hm : ev σ m = some (.int km j))
    (hE : ∀ w, (sizeOf E).run P w = .ok k w) (hij : i < j) (hj : j ≤ cap) (hr : o + i * k = r) (he : j - i = e) : Rd P σ φ ⟨dst, .slice T x (some l) (some h) (some m), ty, pos, aft, g⟩ (.slice (some ⟨b, r, none⟩) e e) := fun a w hs _ => by
  subst hr; subst he
  have he : P.elem T = E := by simp [Program.elem, hT]
  simp only [execOp, hs.ev hx, Option.map_some, hs.ev hl, hs.ev hh, hs.ev hm, Sem.run_bind]
  rw [run_sliceAt_slice w T (.slice (some ⟨b, o, none⟩) len cap) (some (.int kl i)) (some (.int kh j)) (some (.int km j)) (by rw [he]; exact hT)]
  have h1 : ((j : Int)).toNat = j := by omega
  have h2 : ((i : Int)).toNat = i := by omega
  have h3 : i ≤ j := by omega
  have h4 : j ≠ i := by omega
  simp [Instr.slice, run_underlying hT, Instr.sliceBounds, Instr.sliceBound, asIntOf, hE, hj, h3, h1, h2, h4, add_plain]
/-- x[:hi] -/
theorem rd_sliceHi {T E : TypeId} {x h : Operand} {b o len cap k : Nat} {kh : IntKind} {j : Nat} (hT : P.underlying T = some (.slice E)) (hx : ev σ x = some (.slice (some ⟨b, o, none⟩) len cap)) (hh : ev σ h = some (.int kh j))
    (hE : ∀ w, (sizeOf E).run P w = .ok k w) (hj : j ≤ cap) : Rd P σ φ ⟨dst, .slice T x none (some h) none, ty, pos, aft, g⟩ (.slice (some ⟨b, o, none⟩) j cap) := fun a w hs _ => by
  have he : P.elem T = E := by simp [Program.elem, hT]
  simp only [execOp, hs.ev hx, Option.map_some, Option.map_none, hs.ev hh, Sem.run_bind]
  rw [run_sliceAt_slice w T (.slice (some ⟨b, o, none⟩) len cap) none (some (.int kh j)) none (by rw [he]; exact hT)]
  have h1 : ((j : Int)).toNat = j := by omega
  by_cases h4 : cap = 0
  · subst h4
    obtain rfl : j = 0 := by omega
    simp [Instr.slice, run_underlying hT, Instr.sliceBounds, Instr.sliceBound, asIntOf, hE]
  · simp [Instr.slice, run_underlying hT, Instr.sliceBounds, Instr.sliceBound, asIntOf, hE, hj, h1, h4, add_plain]
/-- x[lo:] -/
theorem rd_sliceLo {T E : TypeId} {x l : Operand} {b o len cap k : Nat} {kl : IntKind} {i : Nat} (r : Nat) (hT : P.underlying T = some (.slice E)) (hx : ev σ x = some (.slice (some ⟨b, o, none⟩) len cap)) (hl : ev σ l = some (.int kl i))
    (hE : ∀ w, (sizeOf E).run P w = .ok k w) (hj : i ≤ len) (hr : (if cap = i then o else o + i * k) = r) : Rd P σ φ ⟨dst, .slice T x (some l) none none, ty, pos, aft, g⟩ (.slice (some ⟨b, r, none⟩) (len - i) (cap - i)) := fun a w hs _ => by
  subst hr
  have he : P.elem T = E := by simp [Program.elem, hT]
  simp only [execOp, hs.ev hx, Option.map_some, Option.map_none, hs.ev hl, Sem.run_bind]
  rw [run_sliceAt_slice w T (.slice (some ⟨b, o, none⟩) len cap) (some (.int kl i)) none none (by rw [he]; exact hT)]
  have h1 : ((i : Int)).toNat = i := by omega
  by_cases h4 : cap = i <;> simp [Instr.slice, run_underlying hT, Instr.sliceBounds, Instr.sliceBound, asIntOf, hE, hj, h1, h4, add_plain]
/-- x[lo:hi] -/
theorem rd_sliceLH {T E : TypeId} {x l h : Operand} {b o len cap k : Nat} {kl kh : IntKind} {i j : Nat} (r e : Nat) (hT : P.underlying T = some (.slice E)) (hx : ev σ x = some (.slice (some ⟨b, o, none⟩) len cap)) (hl : ev σ l = some (.int kl i)) (hh : ev σ h = some (.int kh j))
    (hE : ∀ w, (sizeOf E).run P w = .ok k w) (hij : i ≤ j) (hj : j ≤ cap) (hr : (if cap = i then o else o + i * k) = r) (he : j - i = e) : Rd P σ φ ⟨dst, .slice T x (some l) (some h) none, ty, pos, aft, g⟩ (.slice (some ⟨b, r, none⟩) e (cap - i)) := fun a w hs _ => by
  subst hr; subst he
  have he : P.elem T = E := by simp [Program.elem, hT]
  simp only [execOp, hs.ev hx, Option.map_some, Option.map_none, hs.ev hl, hs.ev hh, Sem.run_bind]
  rw [run_sliceAt_slice w T (.slice (some ⟨b, o, none⟩) len cap) (some (.int kl i)) (some (.int kh j)) none (by rw [he]; exact hT)]
  have h1 : ((i : Int)).toNat = i := by omega
  have h2 : ((j : Int)).toNat = j := by omega
  by_cases h4 : cap = i
  · subst h4
    obtain rfl : j = cap := by omega
    simp [Instr.slice, run_underlying hT, Instr.sliceBounds, Instr.sliceBound, asIntOf, hE, h1]
  · simp [Instr.slice, run_underlying hT, Instr.sliceBounds, Instr.sliceBound, asIntOf, hE, hij, hj, h1, h2, h4, add_plain]
end
section
variable {κr : Option Nat} {P : Program} {n : Fm} {w0 : World} {S : List Nat} {σ : Slots} {η π : Heap} {l : List Oper} {N : Act → World → Prop} {q : List (Nat × Kd)} {late : Bool} {i : Nat}
  {ty : TypeId} {pos : String} {aft : Array Edge} {g : Option (Nat × Bool)} {d : Nat}
/-- a native call that lays one new block -/
theorem ws_externN {x : Operand} {xs : List Operand} {ts : Array TypeId} {f : FuncId} {fn : Func} {e : Array Value → Sem Value} {args : List Value} {v : Nat → Value} {o : Obj} (ho : opAt l i = some ⟨some d, .call { callee := .value x, args := xs.toArray, argTypes := ts }, ty, pos, aft, g⟩) (hdn : Nat.blt d n.n = true) (hg : gd l σ g = some true)
    (hf : P.funcs[f]? = some fn) (hname : (fn.name == "runtime.NumGoroutine") = false) (hb : fn.body.isNone = true) (hn : Extern.findNext fn = none) (he : Extern.find fn = some e) (hx : ev σ x = some (.func (.func f) #[] #[])) (hxs : evs σ xs = some args)
    (hr : ∀ w, HpOK η w → (e args.toArray).run P w = .ok (v w.heap.size) (w.alloc o)) (k : ∀ b, w0.heap.size ≤ b → WS κr P l π N n w0 S ((d, v b) :: σ) ((b, o) :: η) q) : WS κr P l π N n w0 S σ η ((i, .x late) :: q) :=
  ws_new (v := v) ho hdn hg (fun a w hs hp => by
    have h1 : xs.toArray.map a.eval = args.toArray := by rw [List.map_toArray, hs.evs hxs]
    have hfv : a.eval x = .func (.func f) #[] #[] := hs.ev hx
    simp only [execOp, resolve, h1, hfv, Deferred.ofValue]
    simp [invoke, run_callFunc_extern hf hname hb hn he, hr w hp, Result.andThen]) k
/-- copy into a block of one's own -/
theorem ws_copy {dT sT elem E E2 : TypeId} {x y : Operand} {b o dLen dCap b2 o2 sLen sCap : Nat} {cur cur' cs2 : Array Value} {fr : Nat × Nat} {news : List Value} {η' : Heap} (ho : opAt l i = some ⟨some d, .call { callee := .builtin .copy, args := #[x, y], argTypes := #[dT, sT] }, ty, pos, aft, g⟩) (hdn : Nat.blt d n.n = true) (hg : gd l σ g = some true)
    (hx : ev σ x = some (.slice (some ⟨b, o, none⟩) dLen dCap)) (hy : ev σ y = some (.slice (some ⟨b2, o2, none⟩) sLen sCap)) (hu : P.underlying dT = some (.slice elem)) (hz : (P.info? elem).map (·.size) = some 1) [hm : HM b (.cells cur E (0, 0)) η] [hm2 : HM b2 (.cells cs2 E2 fr) η]
    (hn : news.length = Nat.min sLen dLen) (hsrc : ∀ j v, news[j]? = some v → cs2[o2 + j]? = some v) (h1 : ∀ v ∈ news, v.oneCell' = true) (hfit : o + news.length ≤ cur.size) (hcur : cur' = (cur.toList.take o ++ news ++ cur.toList.drop (o + news.length)).toArray)
    [hu' : HU b (.cells cur E (0, 0)) (.cells cur' E (0, 0)) η η'] (hb : w0.heap.size ≤ b ∨ b ∈ S) (hπ' : ∀ p ∈ π, p ∈ η → p ∈ η') (k : WS κr P l π N n w0 S ((d, .int .i64 news.length) :: σ) η' q) : WS κr P l π N n w0 S σ η ((i, .x late) :: q) :=
  ws_x ho hg fun hπ a w hs => by
    have hbk := hs.hp _ _ hm.go
    have hrun := run_copy_row (P := P) w dT sT ty elem b o dLen dCap ⟨b2, o2, none⟩ sLen sCap cur E news hu hz hbk hn (fun j v hj => by
      rw [add_plain]
      simp only [World.cell?, hs.hp _ _ hm2.go, Option.isSome_none, Bool.false_eq_true, if_false]
      exact hsrc j v hj) hfit h1
    rw [← hcur, setRow_setBlk w b cur cur' E hbk] at hrun
    have hrun' : (execOp a.eval ⟨some d, .call { callee := .builtin .copy, args := #[x, y], argTypes := #[dT, sT] }, ty, pos, aft, g⟩).run P w = .ok (.value (.int .i64 news.length)) (World.setBlk w b (.cells cur' E (0, 0))) := by
      simp only [execOp, resolve, invoke, builtin, Sem.run_bind, Sem.run_pure, Result.andThen_ok, List.map_toArray, List.map_cons, List.map_nil, hs.sl.ev hx, hs.sl.ev hy, hrun, goInt]
    unfold OW
    rw [hrun']
    have h2 : St n w0 S σ η' a (World.setBlk w b (.cells cur' E (0, 0))) := ⟨hs.df, hs.sz, hs.sl, hu'.go w hs.hp hs.nd, by rw [hu'.nd]; exact hs.nd, hs.on.setBlk b _ hb⟩
    exact ⟨fun _ => h2.hp.mono fun p hp => hπ' p hp (hπ p hp), k (fun p hp => hπ' p hp (hπ p hp)) _ _ (h2.put _ hdn)⟩
theorem run_clone_map {r : Nat} {es : Array MapEntry} {clock : Nat} (t : TypeId) {w : World} (hb : w.heap[r]? = some (.map es clock)) : (Extern.MapsClone.clone #[.iface t (.map (some r))]).run P w = .ok (.iface t (.map (some w.heap.size))) (w.alloc (.map es clock)) := by
  have e : Extern.MapsClone.clone #[.iface t (.map (some r))] = (getObj r >>= fun o => match o with
      | .map entries clock => (newObj (.map entries clock) >>= fun n => pure (.iface t (.map (some n))))
      | _ => stuck "maps.clone: a map expected") := rfl
  rw [e]
  simp [MapKept.run_getObj_map hb, Result.andThen, go_sem]
end
/-! a map's entry opened, then stored into -/
section
variable {α β : Type} {ek : α → Value} {en : β → Value} {P : Program}
theorem upd_upd [DecidableEq α] (L : List (α × β)) (a : α) (x b : β) : upd (upd L a x) a b = upd L a b := by
  by_cases h : L.lookup a = none
  · have h1 : (upd L a x).lookup a ≠ none := by
      rw [upd_new h]
      intro hn
      have := lookup_none.1 hn (a, x) (by simp)
      simp at this
    rw [upd, if_neg h1, upd_new h, upd_new h, List.map_append]
    have h2 : L.map (fun p => if p.1 = a then (a, b) else p) = L := by
      conv => rhs; rw [← List.map_id L]
      refine List.map_congr_left fun p hp => ?_
      simp [lookup_none.1 h p hp]
    rw [h2]; simp
  · have h1 : (upd L a x).lookup a ≠ none := by
      intro hn
      have h3 := lookup_none.1 hn
      apply h
      refine lookup_none.2 fun p hp he => ?_
      have hm : (a, x) ∈ upd L a x := by
        rw [upd, if_neg h]
        exact List.mem_map.2 ⟨p, hp, by simp [he]⟩
      exact h3 _ hm rfl
    rw [upd, if_neg h1]
    simp only [upd, if_neg h, List.map_map]
    refine List.map_congr_left fun p _ => ?_
    by_cases hp : p.1 = a <;> simp [hp]
/-- entry j of the map is a's, and bears this stamp -/
structure OpenAt (ek : α → Value) (es : Array MapEntry) (a : α) (stamp : Nat) : Prop where
  go : ∃ (j : Nat) (e : MapEntry), es.toList[j]? = some e ∧ e.key = ek a ∧ e.born = stamp
theorem run_mapEntry [DecidableEq α] {K E t : TypeId} [hk : KeyEnc P K ek] (ht : P.underlying t = some (.map K E)) {es : Array MapEntry} {clock : Nat} {L : List (α × β)} (h : MapIs ek en es clock L) {m : Nat} {w : World} (hb : w.heap[m]? = some (.map es clock)) (a : α) (z0 : β) (hz : ∀ w, (zeroValue E).run P w = .ok (en z0) w) :
    ∃ es' clock' stamp, (Instr.mapEntry t (.map (some m)) (ek a)).run P w = .ok (.tuple #[en ((L.lookup a).getD z0), .int .i64 (stamp : Nat)]) (World.setBlk w m (.map es' clock')) ∧ MapIs ek en es' clock' (upd L a ((L.lookup a).getD z0)) ∧ OpenAt ek es' a stamp := by
  obtain ⟨l, hl⟩ := hk.dom a
  rcases find_is (P := P) (K := K) h a w with ⟨h1, h2, h3⟩ | ⟨j, e, b', h1, h2, h3, h4, h5, h6⟩
  · refine ⟨es.push { key := ek a, val := en z0, born := clock }, clock + 1, clock, ?_, ⟨?_, stamped_push h.st h3⟩, ⟨es.size, { key := ek a, val := en z0, born := clock }, by simp [← Array.length_toList], rfl, rfl⟩⟩
    · simp [Instr.mapEntry, run_underlying ht, MapKept.run_getObj_map hb, hk.keyed.check w false hl, h1, hz, MapKept.run_setObj_map _ hb, Result.andThen, World.setBlk, h2, goInt]
    · rw [h2, upd_new h2]
      simp [h.kv]
  · have hjl : j < es.size := by have := (List.getElem?_eq_some_iff.1 h2).1; simpa using this
    have hj : es[j]? = some e := by simpa using h2
    have e1 : (es.modify j (fun e' => { e' with key := ek a })).toList = es.toList.set j { e with key := ek a } := by
      rw [Array.toList_modify]
      exact Go.ChangeMaps.modify_eq_set _ _ _ _ h2
    refine ⟨es.modify j (fun e' => { e' with key := ek a }), clock, e.born, ?_, ⟨?_, stamped_modify h.st _ _ (fun _ _ => rfl) (fun e' _ he' => ?_)⟩, ⟨j, { e with key := ek a }, ?_, rfl, rfl⟩⟩
    · simp [Instr.mapEntry, run_underlying ht, MapKept.run_getObj_map hb, hk.keyed.check w false hl, h1, hj, h3, hk.keyed.stays w hl, MapKept.run_setObj_map _ hb, Result.andThen, World.setBlk, h6, goInt]
    · rw [h6]
      simp only [Option.getD_some]
      rw [e1, List.map_set, h.kv, upd, if_neg (by rw [h6]; simp), ← set_of_key h.keysNd h5, List.map_set, h4]
    · rw [hj] at he'; cases he'; exact h3.symm
    · rw [e1, List.getElem?_set_self (by simpa using hjl)]
theorem run_entryStore [DecidableEq α] {t : TypeId} {es : Array MapEntry} {clock : Nat} {L : List (α × β)} (h : MapIs ek en es clock L) (hinj : ∀ a b, ek a = ek b → a = b) {m : Nat} {w : World} (hb : w.heap[m]? = some (.map es clock)) {a : α} {stamp : Nat} (ho : OpenAt ek es a stamp) (b : β) :
    ∃ es', (Instr.entryStore t (.map (some m)) (.int .i64 stamp) (en b)).run P w = .ok () (World.setBlk w m (.map es' clock)) ∧ MapIs ek en es' clock (upd L a b) := by
  obtain ⟨j, e, hj, hka, hbn⟩ := ho.go
  have hjl : j < es.toList.length := (List.getElem?_eq_some_iff.1 hj).1
  have hje : es.toList[j] = e := (List.getElem?_eq_some_iff.1 hj).2
  have hj' : es[j]? = some e := by simpa using hj
  have hat := h.at j
  rw [hj] at hat
  cases hL : L[j]? with
  | none => rw [hL] at hat; cases hat
  | some p =>
    obtain ⟨k, b0⟩ := p
    rw [hL] at hat
    simp only [Option.map_some, Option.some.injEq, Prod.mk.injEq] at hat
    have hk : k = a := hinj _ _ (by rw [← hat.1, hka])
    subst hk
    have hidx : es.findIdx? (fun e => (e.born : Int) == (stamp : Int)) = some j := by
      rw [Array.findIdx?_eq_some_iff_getElem]
      refine ⟨by simpa using hjl, by rw [Array.getElem?_eq_getElem (by simpa using hjl)] at hj'; cases hj'; simp [hbn], fun i hi => ?_⟩
      have hil : i < es.toList.length := Nat.lt_trans hi hjl
      simp only [beq_iff_eq]
      intro heq
      have hn := h.st.2.1
      have e1 : (es.toList.map (·.born))[i]? = some stamp := by simp only [List.getElem?_map, List.getElem?_eq_getElem hil, Option.map_some, Array.getElem_toList]; congr 1; omega
      have e2 : (es.toList.map (·.born))[j]? = some stamp := by simp only [List.getElem?_map, hj, Option.map_some, hbn]
      have := (List.getElem?_inj (by simpa using hil) hn).1 (e1.trans e2.symm)
      omega
    have e1 : (es.modify j (fun e' => { e' with val := en b })).toList = es.toList.set j { e with val := en b } := by
      rw [Array.toList_modify]
      exact Go.ChangeMaps.modify_eq_set _ _ _ _ hj
    refine ⟨es.modify j (fun e' => { e' with val := en b }), ?_, ⟨?_, stamped_modify h.st _ _ (fun _ _ => rfl) (fun _ _ _ => rfl)⟩⟩
    · simp [Instr.entryStore, MapKept.run_getObj_map hb, asInt, asIntOf, hidx, MapKept.run_setObj_map _ hb, Result.andThen, World.setBlk]
    · have hlk : L.lookup k = some b0 := (lookup_some h.keysNd).2 (List.mem_of_getElem? hL)
      rw [e1, List.map_set, h.kv, upd, if_neg (by rw [hlk]; simp), ← set_of_key h.keysNd hL, List.map_set]
      simp [hka]
end
section
variable {α β : Type} {ek : α → Value} {en : β → Value} {κr : Option Nat} {P : Program} {n : Fm} {w0 : World} {S : List Nat} {σ : Slots} {η π : Heap} {l : List Oper} {N : Act → World → Prop} {q : List (Nat × Kd)} {late : Bool} {i : Nat}
  {ty : TypeId} {pos : String} {aft : Array Edge} {g : Option (Nat × Bool)} {d : Nat}
theorem ws_mapEntry [DecidableEq α] {K E t : TypeId} {x ix : Operand} {m : Nat} {es : Array MapEntry} {clock : Nat} {L : List (α × β)} {a : α} {η' : Array MapEntry → Nat → Heap} [KeyEnc P K ek] (ht : P.underlying t = some (.map K E)) (h : MapIs ek en es clock L) (z0 : β) (hz : ∀ w, (zeroValue E).run P w = .ok (en z0) w)
    (ho : opAt l i = some ⟨some d, .mapEntry t x ix, ty, pos, aft, g⟩) (hdn : Nat.blt d n.n = true) (hg : gd l σ g = some true) (hx : ev σ x = some (.map (some m))) (hi : ev σ ix = some (ek a)) [hm : HM m (.map es clock) η] [hu : ∀ es' clock', HU m (.map es clock) (.map es' clock') η (η' es' clock')]
    (hb : w0.heap.size ≤ m ∨ m ∈ S) (hπ' : ∀ es' clock', ∀ p ∈ π, p ∈ η → p ∈ η' es' clock')
    (k : ∀ es' clock' stamp, MapIs ek en es' clock' (upd L a ((L.lookup a).getD z0)) → OpenAt ek es' a stamp → WS κr P l π N n w0 S ((d, .tuple #[en ((L.lookup a).getD z0), .int .i64 (stamp : Nat)]) :: σ) (η' es' clock') q) : WS κr P l π N n w0 S σ η ((i, .x late) :: q) :=
  ws_x ho hg fun hπ A w hs => by
    obtain ⟨es', clock', stamp, hrun, h', ho'⟩ := run_mapEntry (P := P) ht h (hs.hp _ _ hm.go) a z0 hz
    have hrun' : (execOp A.eval ⟨some d, .mapEntry t x ix, ty, pos, aft, g⟩).run P w = .ok (.value (.tuple #[en ((L.lookup a).getD z0), .int .i64 (stamp : Nat)])) (World.setBlk w m (.map es' clock')) := by
      simp [execOp, hs.sl.ev hx, hs.sl.ev hi, hrun]
    unfold OW
    rw [hrun']
    have hu' := hu es' clock'
    have h1 : St n w0 S σ (η' es' clock') A (World.setBlk w m (.map es' clock')) := ⟨hs.df, hs.sz, hs.sl, hu'.go w hs.hp hs.nd, by rw [hu'.nd]; exact hs.nd, hs.on.setBlk m _ hb⟩
    have hsub : ∀ p ∈ π, p ∈ η' es' clock' := fun p hp => hπ' es' clock' p hp (hπ p hp)
    exact ⟨fun _ => h1.hp.mono hsub, k es' clock' stamp h' ho' hsub _ _ (h1.put _ hdn)⟩
theorem ws_entryStore [DecidableEq α] {K t : TypeId} {x s y : Operand} {m : Nat} {es : Array MapEntry} {clock : Nat} {L : List (α × β)} {a : α} {b : β} {stamp : Nat} {η' : Array MapEntry → Heap} [hk : KeyEnc P K ek] (h : MapIs ek en es clock L) (hop : OpenAt ek es a stamp)
    (ho : opAt l i = some ⟨none, .entryStore t x s y, ty, pos, aft, g⟩) (hg : gd l σ g = some true) (hx : ev σ x = some (.map (some m))) (hs' : ev σ s = some (.int .i64 (stamp : Nat))) (hy : ev σ y = some (en b)) [hm : HM m (.map es clock) η] [hu : ∀ es', HU m (.map es clock) (.map es' clock) η (η' es')]
    (hb : w0.heap.size ≤ m ∨ m ∈ S) (hπ' : ∀ es', ∀ p ∈ π, p ∈ η → p ∈ η' es')
    (k : ∀ es', MapIs ek en es' clock (upd L a b) → WS κr P l π N n w0 S σ (η' es') q) : WS κr P l π N n w0 S σ η ((i, .x late) :: q) :=
  ws_x ho hg fun hπ A w hs => by
    obtain ⟨es', hrun, h'⟩ := run_entryStore (P := P) (t := t) h hk.inj (hs.hp _ _ hm.go) hop b
    have hrun' : (execOp A.eval ⟨none, .entryStore t x s y, ty, pos, aft, g⟩).run P w = .ok .skip (World.setBlk w m (.map es' clock)) := by
      simp [execOp, hs.sl.ev hx, hs.sl.ev hs', hs.sl.ev hy, hrun]
    unfold OW
    rw [hrun']
    have hu' := hu es'
    have h1 : St n w0 S σ (η' es') A (World.setBlk w m (.map es' clock)) := ⟨hs.df, hs.sz, hs.sl, hu'.go w hs.hp hs.nd, by rw [hu'.nd]; exact hs.nd, hs.on.setBlk m _ hb⟩
    have hsub : ∀ p ∈ π, p ∈ η' es' := fun p hp => hπ' es' p hp (hπ p hp)
    exact ⟨fun _ => h1.hp.mono hsub, k es' h' hsub A _ h1⟩
end
/-- a literal slice of four numbers -/
theorem BuildsS.four {P : Program} {T E : TypeId} {u1 u2 u3 u4 z : Value} (ht : P.underlying T = some (.slice E)) (hE : ∀ w, (sizeOf E).run P w = .ok 1 w) (hz : ∀ w, (zeroValue E).run P w = .ok z w) (h1 : CellsOf u1 #[u1]) (h2 : CellsOf u2 #[u2]) (h3 : CellsOf u3 #[u3]) (h4 : CellsOf u4 #[u4]) :
    BuildsS P T 4 [(0, u1), (1, u2), (2, u3), (3, u4)] E #[u1, u2, u3, u4] := ⟨fun w => by
  have key : ∀ f : Fin 4 → Value, ((((Array.ofFn f).setIfInBounds 0 u1).setIfInBounds 1 u2).setIfInBounds 2 u3).setIfInBounds 3 u4 = #[u1, u2, u3, u4] := fun f => by
    apply Array.ext'
    simp [List.ofFn_succ]
  simp [Instr.buildSlice, run_underlying ht, hE, hz, newRow, newObj, Sem.run, Instr.fill, h1.go, h2.go, h3.go, h4.go, Array.range, Result.andThen, key]⟩
instance HRep.self (ν ν' : Heap) : HRep ν ν' ν ν' := ⟨[], [], by simp, by simp⟩
/-- what a block's bytes read -/
theorem Src.bytes {η : Heap} {b o n c : Nat} {cs : Array Value} {E : TypeId} {fr : Nat × Nat} {bs : List UInt8} (h : BytesAt cs o n bs) (hm : (b, Obj.cells cs E fr) ∈ η) : Src η (.slice (some ⟨b, o, none⟩) n c) 1 n (bs.map fun x => .int .u8 x.toNat) :=
  Src.ofBlock (by simp [h.len]) hm fun j v hj => by
    rw [List.getElem?_map] at hj
    cases hx : bs[j]? with
    | none => rw [hx] at hj; cases hj
    | some x => rw [hx] at hj; cases hj; exact h.go j x hx
theorem bytes_of {cur : Array Value} {n : Nat} {bs : List UInt8} (hl : bs.length = n) (h : ∀ i, i < n * 1 → cur[i]? = (bs.map fun x => Value.int .u8 x.toNat)[i]?) : BytesAt cur 0 n bs := ⟨hl, fun j x hj => by
  have hjl := (List.getElem?_eq_some_iff.1 hj).1
  rw [Nat.zero_add, h j (by omega), List.getElem?_map, hj]; rfl⟩
end Go.Sx
