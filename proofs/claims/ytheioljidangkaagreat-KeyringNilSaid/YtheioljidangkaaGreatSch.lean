/- SHA-256: schedules, as plain functions. No conditions. -/
import Derived.Test.YtheioljidangkaaGreatW2
namespace Go.Proofs.YtheioljidangkaaGreat
open Go Go.RowKit Go.Sx
set_option linter.unusedVariables false
set_option linter.unusedSimpArgs false
abbrev u8v (b : UInt8) : Value := .int .u8 (b.toNat : Nat)
def wg {n : Nat} (w : WV n) (i : Nat) : UInt32 := w.toArray.getD i 0
def wset {n : Nat} (w : WV n) (i : Nat) (x : UInt32) : WV n := if h : i < n then w.set i x h else w
theorem w_getg {n : Nat} (v : WV n) {j : Nat} (hj : j < n) : GetAt (wC v) j (w32 (wg v j)) := ⟨by
  rw [wC_at v j hj, wg]
  simp [hj]⟩
theorem w_setg {n : Nat} (v : WV n) {j : Nat} (hj : j < n) (x : UInt32) : SetAt (wC v) j (w32 x) (wC (wset v j x)) := by
  rw [wset, dif_pos hj]
  exact wC_set v j hj x
def bg (bs : List UInt8) (i : Nat) : UInt8 := bs.getD i 0
theorem b_get {cs : Array Value} {o n : Nat} {bs : List UInt8} (h : BytesAt cs o n bs) {j : Nat} (hj : j < n) : GetAt cs (o + j) (u8v (bg bs j)) := ⟨by
  have hl : j < bs.length := by rw [h.len]; exact hj
  have := h.go j bs[j] (List.getElem?_eq_getElem hl)
  rw [this, bg, List.getD_eq_getElem?_getD, List.getElem?_eq_getElem hl]
  rfl⟩
def w4at (bs : List UInt8) (t : Nat) : UInt32 := w4 (bg bs (4 * t)) (bg bs (4 * t + 1)) (bg bs (4 * t + 2)) (bg bs (4 * t + 3))
def sNew (w : WV 64) (t : Nat) : UInt32 := (rotR (wg w (t - 2)) 17 ^^^ rotR (wg w (t - 2)) 19 ^^^ shr32 (wg w (t - 2)) 10) + wg w (t - 7) + (rotR (wg w (t - 15)) 7 ^^^ rotR (wg w (t - 15)) 18 ^^^ shr32 (wg w (t - 15)) 3) + wg w (t - 16)
def sStep (bs : List UInt8) (w : WV 64) (t : Nat) : WV 64 := wset w t (if t < 16 then w4at bs t else sNew w t)
def schedF (bs : List UInt8) : Nat → WV 64
  | 0 => w0 64
  | t + 1 => sStep bs (schedF bs t) t
def loadF (bs : List UInt8) : Nat → WV 16
  | 0 => w0 16
  | t + 1 => wset (loadF bs t) t (w4at bs t)
theorem sched_lo (bs : List UInt8) (t : Nat) (ht : t < 16) : wset (schedF bs t) t (shl32 (bg bs (4 * t)).toUInt32 24 ||| shl32 (bg bs (4 * t + 1)).toUInt32 16 ||| shl32 (bg bs (4 * t + 2)).toUInt32 8 ||| (bg bs (4 * t + 3)).toUInt32) = schedF bs (t + 1) := by
  rw [schedF, sStep, if_pos ht]; rfl
theorem sched_hi (bs : List UInt8) (t : Nat) (ht : ¬ t < 16) : wset (schedF bs t) t ((rotR (wg (schedF bs t) (t - 2)) 17 ^^^ rotR (wg (schedF bs t) (t - 2)) 19 ^^^ shr32 (wg (schedF bs t) (t - 2)) 10) + wg (schedF bs t) (t - 7) + (rotR (wg (schedF bs t) (t - 15)) 7 ^^^ rotR (wg (schedF bs t) (t - 15)) 18 ^^^ shr32 (wg (schedF bs t) (t - 15)) 3) + wg (schedF bs t) (t - 16)) = schedF bs (t + 1) := by
  conv => rhs; rw [schedF, sStep, if_neg ht]
  rfl
abbrev pNew (B : WV 16) (t : Nat) : UInt32 := wg B (t % 16) + ((rotR (wg B ((t - 2) % 16)) 17 ^^^ rotR (wg B ((t - 2) % 16)) 19 ^^^ shr32 (wg B ((t - 2) % 16)) 10) + wg B ((t - 7) % 16) + (rotR (wg B ((t - 15) % 16)) 7 ^^^ rotR (wg B ((t - 15) % 16)) 18 ^^^ shr32 (wg B ((t - 15) % 16)) 3))
def pBlk (B : WV 16) (t : Nat) : WV 16 := if t < 16 then B else wset B (t % 16) (pNew B t)
def procF (s : WV 8) (blk : WV 16) : Nat → WV 16 × WV 8
  | 0 => (blk, s)
  | t + 1 => (pBlk (procF s blk t).1 t, roundF (procF s blk t).2 (wg kK t) (wg (pBlk (procF s blk t).1 t) (t % 16)))
theorem proc_lo {s : WV 8} {blk B : WV 16} {O : WV 8} {t : Nat} (h : procF s blk t = (B, O)) (ht : t < 16) : procF s blk (t + 1) = (B, roundF O (wg kK t) (wg B (t % 16))) := by
  rw [procF, h]
  simp only [pBlk, if_pos ht]
theorem proc_hi {s : WV 8} {blk B : WV 16} {O : WV 8} {t : Nat} (h : procF s blk t = (B, O)) (ht : ¬ t < 16) : procF s blk (t + 1) = (wset B (t % 16) (pNew B t), roundF O (wg kK t) (wg (wset B (t % 16) (pNew B t)) (t % 16))) := by
  rw [procF, h]
  simp only [pBlk, if_neg ht]
theorem load_step (bs : List UInt8) (t : Nat) : wset (loadF bs t) t (shl32 (bg bs (4 * t)).toUInt32 24 ||| shl32 (bg bs (4 * t + 1)).toUInt32 16 ||| shl32 (bg bs (4 * t + 2)).toUInt32 8 ||| (bg bs (4 * t + 3)).toUInt32) = loadF bs (t + 1) := rfl
end Go.Proofs.YtheioljidangkaaGreat
