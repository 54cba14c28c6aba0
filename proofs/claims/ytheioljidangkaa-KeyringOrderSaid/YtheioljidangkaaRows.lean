/-
  No cell of these rows narrows 'for every input' (looked for: loops, veiled, ifaces, maps, wideKeys, modest, calm, conditions, laid).
  DERIVED. THE GIVEN ROWS OF THIS SEAT. 5 by the template 'for every input the law returns true; each argument reads behind the call as it read before'; 0 by the template 'total and deterministic' (their statements: YtheioljidangkaaTotals.lean).
  GIVEN WITH THE SEED: the statements are not yours to turn. If you find one false, say at which input.
  Laid BY PROGRAM, IN A SANDBOX (cutbox-rows.mjs): the forced cells as the released guide's own fill.sh prints them over the translation 906c1be61879e04e… (all of the seat's roots in one cut). By AI agents, Wed Nov 11 2026. No macro, syntax, notation, axiom, sorry.
-/
import Derived.Test.YtheioljidangkaaChecked
import GoSem.Claim
import GoSem.ClaimJoined
import GoSem.ClaimMapViews
import Derived.JoinedTies
import Derived.KernelRfl
namespace Go.Proofs.Ytheioljidangkaa
/- THE CELL 'sum', in the pinned program and in every row, IS THE sha256 OF THE DUMP (.gsa) THAT YtheioljidangkaaProg.lean LOADS. Nothing in Lean hashes anything: it is a label: what it is worth is what the hold of that sum in a sandbox is worth. -/
noncomputable def Try.pinned : Pinned := { name := "ytheioljidangkaa", sum := "906c1be61879e04e2bf5b2bbef9120acc6bfdc48558b3a025b3add542fa58625", checked := Try.checked }
namespace Rows
def none {H : Type} : Left H := { results := [], args := [] }

/-- 'bulletinlaw19.KeyringJudges': WHATEVER THE INPUT: true; the input reads as it did. -/
def keyringJudgesSpec : ChangeSpec := { name := "keyringJudges", fn := fun _ => fun
  | [d1, d2, d3] => { results := [.lit (.bool true)], args := [d1, d2, d3] }
  | _ => none }
def keyringJudgesRow : OpenClaim := { program := "ytheioljidangkaa", sum := "906c1be61879e04e2bf5b2bbef9120acc6bfdc48558b3a025b3add542fa58625", func := "bulletin/bulletinlaw19.KeyringJudges", spec := "keyringJudges", inPlace := ["internal/bytealg.Compare"], unfollowed := true, recurses := true, plainKeys := false, apart := false }
def KeyringJudgesSaid : Prop := keyringJudgesRow.holds Try.pinned (OpenSpec.ofChange keyringJudgesSpec)

/-- ITS FALSE NEIGHBOUR: 'it returns false'. Refute it at one input. -/
def keyringJudgesWrong : ChangeSpec := { name := "keyringJudges", fn := fun _ => fun
  | [d1, d2, d3] => { results := [.lit (.bool false)], args := [d1, d2, d3] }
  | _ => none }
def KeyringJudgesWrongFalsely : Prop := keyringJudgesRow.holds Try.pinned (OpenSpec.ofChange keyringJudgesWrong)

/-- 'bulletinlaw19.KeyringOutsiders': WHATEVER THE INPUT: true; the input reads as it did. -/
def keyringOutsidersSpec : ChangeSpec := { name := "keyringOutsiders", fn := fun _ => fun
  | [d1, d2, d3] => { results := [.lit (.bool true)], args := [d1, d2, d3] }
  | _ => none }
def keyringOutsidersRow : OpenClaim := { program := "ytheioljidangkaa", sum := "906c1be61879e04e2bf5b2bbef9120acc6bfdc48558b3a025b3add542fa58625", func := "bulletin/bulletinlaw19.KeyringOutsiders", spec := "keyringOutsiders", inPlace := ["internal/bytealg.Compare"], unfollowed := true, recurses := true, plainKeys := false, apart := false }
def KeyringOutsidersSaid : Prop := keyringOutsidersRow.holds Try.pinned (OpenSpec.ofChange keyringOutsidersSpec)

/-- ITS FALSE NEIGHBOUR: 'it returns false'. Refute it at one input. -/
def keyringOutsidersWrong : ChangeSpec := { name := "keyringOutsiders", fn := fun _ => fun
  | [d1, d2, d3] => { results := [.lit (.bool false)], args := [d1, d2, d3] }
  | _ => none }
def KeyringOutsidersWrongFalsely : Prop := keyringOutsidersRow.holds Try.pinned (OpenSpec.ofChange keyringOutsidersWrong)

/-- 'bulletinlaw19.KeyringHonest': WHATEVER THE INPUT: true; the input reads as it did. -/
def keyringHonestSpec : ChangeSpec := { name := "keyringHonest", fn := fun _ => fun
  | [d1, d2, d3] => { results := [.lit (.bool true)], args := [d1, d2, d3] }
  | _ => none }
def keyringHonestRow : OpenClaim := { program := "ytheioljidangkaa", sum := "906c1be61879e04e2bf5b2bbef9120acc6bfdc48558b3a025b3add542fa58625", func := "bulletin/bulletinlaw19.KeyringHonest", spec := "keyringHonest", inPlace := ["internal/bytealg.Compare"], unfollowed := true, recurses := true, plainKeys := false, apart := false }
def KeyringHonestSaid : Prop := keyringHonestRow.holds Try.pinned (OpenSpec.ofChange keyringHonestSpec)

/-- ITS FALSE NEIGHBOUR: 'it returns false'. Refute it at one input. -/
def keyringHonestWrong : ChangeSpec := { name := "keyringHonest", fn := fun _ => fun
  | [d1, d2, d3] => { results := [.lit (.bool false)], args := [d1, d2, d3] }
  | _ => none }
def KeyringHonestWrongFalsely : Prop := keyringHonestRow.holds Try.pinned (OpenSpec.ofChange keyringHonestWrong)

/-- 'bulletinlaw19.KeyringOrder': WHATEVER THE INPUT: true; the input reads as it did. -/
def keyringOrderSpec : ChangeSpec := { name := "keyringOrder", fn := fun _ => fun
  | [d1, d2] => { results := [.lit (.bool true)], args := [d1, d2] }
  | _ => none }
def keyringOrderRow : OpenClaim := { program := "ytheioljidangkaa", sum := "906c1be61879e04e2bf5b2bbef9120acc6bfdc48558b3a025b3add542fa58625", func := "bulletin/bulletinlaw19.KeyringOrder", spec := "keyringOrder", inPlace := ["internal/bytealg.Compare"], unfollowed := true, recurses := true, plainKeys := false, apart := false }
def KeyringOrderSaid : Prop := keyringOrderRow.holds Try.pinned (OpenSpec.ofChange keyringOrderSpec)

/-- ITS FALSE NEIGHBOUR: 'it returns false'. Refute it at one input. -/
def keyringOrderWrong : ChangeSpec := { name := "keyringOrder", fn := fun _ => fun
  | [d1, d2] => { results := [.lit (.bool false)], args := [d1, d2] }
  | _ => none }
def KeyringOrderWrongFalsely : Prop := keyringOrderRow.holds Try.pinned (OpenSpec.ofChange keyringOrderWrong)

/-- 'bulletinlaw19.KeyringClones': WHATEVER THE INPUT: true; the input reads as it did. -/
def keyringClonesSpec : ChangeSpec := { name := "keyringClones", fn := fun _ => fun
  | [d1, d2] => { results := [.lit (.bool true)], args := [d1, d2] }
  | _ => none }
def keyringClonesRow : OpenClaim := { program := "ytheioljidangkaa", sum := "906c1be61879e04e2bf5b2bbef9120acc6bfdc48558b3a025b3add542fa58625", func := "bulletin/bulletinlaw19.KeyringClones", spec := "keyringClones", inPlace := ["internal/bytealg.Compare"], unfollowed := true, recurses := true, plainKeys := false, apart := false }
def KeyringClonesSaid : Prop := keyringClonesRow.holds Try.pinned (OpenSpec.ofChange keyringClonesSpec)

/-- ITS FALSE NEIGHBOUR: 'it returns false'. Refute it at one input. -/
def keyringClonesWrong : ChangeSpec := { name := "keyringClones", fn := fun _ => fun
  | [d1, d2] => { results := [.lit (.bool false)], args := [d1, d2] }
  | _ => none }
def KeyringClonesWrongFalsely : Prop := keyringClonesRow.holds Try.pinned (OpenSpec.ofChange keyringClonesWrong)

/- THE SECOND FORM. 'bulk': how many values and letters a reading holds, each counted each time it is reached (what is shared counts as often as it is met; a slice's spare places count too). A statement '..UptoSaid' is the law's where the arguments, and the package variables that the reading takes, are together of bulk at most 1048576: NARROWER than '..Said'. Prove '..Said' where nothing that the law and all that it calls make is longer than what came in: it says more and counts as full. Else prove '..UptoSaid'. A law counts once. -/
mutual
def uptoBulk {H : Type} : DataW H → Nat
  | .lit (.string bytes) => bytes.length + 1
  | .lit _ => 1
  | .nil => 1
  | .ptr d => uptoBulk d + 1
  | .slice elems spare => uptoBulkAll elems + uptoBulkAll spare + 1
  | .agg parts => uptoBulkAll parts + 1
  | .iface _ d => uptoBulk d + 1
  | .map entries => uptoBulkEntries entries + 1
  | .held _ => 1
def uptoBulkAll {H : Type} : List (DataW H) → Nat
  | [] => 0
  | d :: r => uptoBulk d + uptoBulkAll r
def uptoBulkEntries {H : Type} : List (Lit × DataW H) → Nat
  | [] => 0
  | x :: r => uptoBulkEntry x + uptoBulkEntries r
def uptoBulkEntry {H : Type} : Lit × DataW H → Nat
  | (.string bytes, d) => bytes.length + uptoBulk d + 1
  | (_, d) => uptoBulk d + 1
 end
def uptoSmall : (H : Type) → List (DataW H) → Bool := fun _ ds => decide (uptoBulkAll ds ≤ 1048576)
def OpenSpec.upto (s : _root_.Go.ChangeSpec) : _root_.Go.OpenSpec := { _root_.Go.OpenSpec.ofChange s with cond := some uptoSmall }

/-- 'bulletinlaw19.KeyringJudges', WHERE WHAT IT READS IS OF BULK AT MOST 1048576: true; the input reads as it did. -/
def keyringJudgesUptoRow : OpenClaim := { program := "ytheioljidangkaa", sum := "906c1be61879e04e2bf5b2bbef9120acc6bfdc48558b3a025b3add542fa58625", func := "bulletin/bulletinlaw19.KeyringJudges", spec := "keyringJudges", inPlace := ["internal/bytealg.Compare"], unfollowed := true, recurses := true, plainKeys := false, apart := false, narrowed := true }
def KeyringJudgesUptoSaid : Prop := keyringJudgesUptoRow.holds Try.pinned (OpenSpec.upto keyringJudgesSpec)

/-- 'bulletinlaw19.KeyringOutsiders', WHERE WHAT IT READS IS OF BULK AT MOST 1048576: true; the input reads as it did. -/
def keyringOutsidersUptoRow : OpenClaim := { program := "ytheioljidangkaa", sum := "906c1be61879e04e2bf5b2bbef9120acc6bfdc48558b3a025b3add542fa58625", func := "bulletin/bulletinlaw19.KeyringOutsiders", spec := "keyringOutsiders", inPlace := ["internal/bytealg.Compare"], unfollowed := true, recurses := true, plainKeys := false, apart := false, narrowed := true }
def KeyringOutsidersUptoSaid : Prop := keyringOutsidersUptoRow.holds Try.pinned (OpenSpec.upto keyringOutsidersSpec)

/-- 'bulletinlaw19.KeyringHonest', WHERE WHAT IT READS IS OF BULK AT MOST 1048576: true; the input reads as it did. -/
def keyringHonestUptoRow : OpenClaim := { program := "ytheioljidangkaa", sum := "906c1be61879e04e2bf5b2bbef9120acc6bfdc48558b3a025b3add542fa58625", func := "bulletin/bulletinlaw19.KeyringHonest", spec := "keyringHonest", inPlace := ["internal/bytealg.Compare"], unfollowed := true, recurses := true, plainKeys := false, apart := false, narrowed := true }
def KeyringHonestUptoSaid : Prop := keyringHonestUptoRow.holds Try.pinned (OpenSpec.upto keyringHonestSpec)

/-- 'bulletinlaw19.KeyringOrder', WHERE WHAT IT READS IS OF BULK AT MOST 1048576: true; the input reads as it did. -/
def keyringOrderUptoRow : OpenClaim := { program := "ytheioljidangkaa", sum := "906c1be61879e04e2bf5b2bbef9120acc6bfdc48558b3a025b3add542fa58625", func := "bulletin/bulletinlaw19.KeyringOrder", spec := "keyringOrder", inPlace := ["internal/bytealg.Compare"], unfollowed := true, recurses := true, plainKeys := false, apart := false, narrowed := true }
def KeyringOrderUptoSaid : Prop := keyringOrderUptoRow.holds Try.pinned (OpenSpec.upto keyringOrderSpec)

/-- 'bulletinlaw19.KeyringClones', WHERE WHAT IT READS IS OF BULK AT MOST 1048576: true; the input reads as it did. -/
def keyringClonesUptoRow : OpenClaim := { program := "ytheioljidangkaa", sum := "906c1be61879e04e2bf5b2bbef9120acc6bfdc48558b3a025b3add542fa58625", func := "bulletin/bulletinlaw19.KeyringClones", spec := "keyringClones", inPlace := ["internal/bytealg.Compare"], unfollowed := true, recurses := true, plainKeys := false, apart := false, narrowed := true }
def KeyringClonesUptoSaid : Prop := keyringClonesUptoRow.holds Try.pinned (OpenSpec.upto keyringClonesSpec)

end Rows
end Go.Proofs.Ytheioljidangkaa
