/-
  No cell of these rows narrows 'for every input' (looked for: loops, veiled, ifaces, maps, wideKeys, modest, calm, conditions, laid).
  DERIVED. THE GIVEN ROWS OF THIS SEAT. 3 by the template 'for every input the law returns true; each argument reads behind the call as it read before'; 0 by the template 'total and deterministic' (their statements: YtpcdcpjjekkemaaGreatTotals.lean).
  GIVEN WITH THE SEED: the statements are not yours to turn. If you find one false, say at which input.
  Laid BY PROGRAM, IN A SANDBOX (cutbox-rows.mjs): the forced cells as the released guide's own fill.sh prints them over the translation 6ee6037a3d96f2dc… (all of the seat's roots in one cut). By AI agents, Wed Nov 11 2026. No macro, syntax, notation, axiom, sorry.
-/
import Derived.Test.YtpcdcpjjekkemaaGreatChecked
import GoSem.Claim
import GoSem.ClaimJoined
import GoSem.ClaimMapViews
import Derived.JoinedTies
import Derived.KernelRfl
namespace Go.Proofs.YtpcdcpjjekkemaaGreat
/- THE CELL 'sum', in the pinned program and in every row, IS THE sha256 OF THE DUMP (.gsa) THAT YtpcdcpjjekkemaaGreatProg.lean LOADS. Nothing in Lean hashes anything: it is a label: what it is worth is what the hold of that sum in a sandbox is worth. -/
noncomputable def Tryz.pinned : Pinned := { name := "ytpcdcpjjekkemaagreat", sum := "6ee6037a3d96f2dca94f7a1c1b9f56e07361a9d2e373a54b6af2091b23e1eba3", checked := Tryz.checked }
namespace Rows
def none {H : Type} : Left H := { results := [], args := [] }

/-- 'astrolabelaw13.BessStep': WHATEVER THE INPUT: true; the input reads as it did. -/
def bessStepSpec : ChangeSpec := { name := "bessStep", fn := fun _ => fun
  | [d1, d2, d3] => { results := [.lit (.bool true)], args := [d1, d2, d3] }
  | _ => none }
def bessStepRow : OpenClaim := { program := "ytpcdcpjjekkemaagreat", sum := "6ee6037a3d96f2dca94f7a1c1b9f56e07361a9d2e373a54b6af2091b23e1eba3", func := "astrolabe/astrolabelaw13.BessStep", spec := "bessStep", unfollowed := true, recurses := true, named := ["math/bits.overflowError"], apart := false }
def BessStepSaid : Prop := bessStepRow.holds Tryz.pinned (OpenSpec.ofChange bessStepSpec)

/-- ITS FALSE NEIGHBOUR: 'it returns false'. Refute it at one input. -/
def bessStepWrong : ChangeSpec := { name := "bessStep", fn := fun _ => fun
  | [d1, d2, d3] => { results := [.lit (.bool false)], args := [d1, d2, d3] }
  | _ => none }
def BessStepWrongFalsely : Prop := bessStepRow.holds Tryz.pinned (OpenSpec.ofChange bessStepWrong)

/-- 'astrolabelaw13.BessSum': WHATEVER THE INPUT: true; the input reads as it did. -/
def bessSumSpec : ChangeSpec := { name := "bessSum", fn := fun _ => fun
  | [d1, d2] => { results := [.lit (.bool true)], args := [d1, d2] }
  | _ => none }
def bessSumRow : OpenClaim := { program := "ytpcdcpjjekkemaagreat", sum := "6ee6037a3d96f2dca94f7a1c1b9f56e07361a9d2e373a54b6af2091b23e1eba3", func := "astrolabe/astrolabelaw13.BessSum", spec := "bessSum", unfollowed := true, recurses := true, named := ["math/bits.overflowError"], apart := false }
def BessSumSaid : Prop := bessSumRow.holds Tryz.pinned (OpenSpec.ofChange bessSumSpec)

/-- ITS FALSE NEIGHBOUR: 'it returns false'. Refute it at one input. -/
def bessSumWrong : ChangeSpec := { name := "bessSum", fn := fun _ => fun
  | [d1, d2] => { results := [.lit (.bool false)], args := [d1, d2] }
  | _ => none }
def BessSumWrongFalsely : Prop := bessSumRow.holds Tryz.pinned (OpenSpec.ofChange bessSumWrong)

/-- 'astrolabelaw13.BessTurned': WHATEVER THE INPUT: true; the input reads as it did. -/
def bessTurnedSpec : ChangeSpec := { name := "bessTurned", fn := fun _ => fun
  | [d1, d2, d3] => { results := [.lit (.bool true)], args := [d1, d2, d3] }
  | _ => none }
def bessTurnedRow : OpenClaim := { program := "ytpcdcpjjekkemaagreat", sum := "6ee6037a3d96f2dca94f7a1c1b9f56e07361a9d2e373a54b6af2091b23e1eba3", func := "astrolabe/astrolabelaw13.BessTurned", spec := "bessTurned", unfollowed := true, recurses := true, named := ["math/bits.overflowError"], apart := false }
def BessTurnedSaid : Prop := bessTurnedRow.holds Tryz.pinned (OpenSpec.ofChange bessTurnedSpec)

/-- ITS FALSE NEIGHBOUR: 'it returns false'. Refute it at one input. -/
def bessTurnedWrong : ChangeSpec := { name := "bessTurned", fn := fun _ => fun
  | [d1, d2, d3] => { results := [.lit (.bool false)], args := [d1, d2, d3] }
  | _ => none }
def BessTurnedWrongFalsely : Prop := bessTurnedRow.holds Tryz.pinned (OpenSpec.ofChange bessTurnedWrong)

/- THE SECOND FORM. 'bulk': how many values and letters a reading holds, each counted each time it is reached (what is shared counts as often as it is met; a slice's spare places count too). A statement '..UptoSaid' is the law's where the arguments, and the package variables that the reading takes, are together of bulk at most 1048576: NARROWER than '..Said'. Prove '..Said' where nothing that the law and all that it calls make is longer than what came in: it says more and counts as full. Else prove '..UptoSaid'. A law counts once. -/
mutual
def uptoBulk {H : Type} : DataW H → Nat
  | .lit (.string bytes) => bytes.length + 1
  | .lit _ => 1
  | .nil => 1
  | .ptr d => uptoBulk d + 1
  | .slice elems spare => uptoBulkAll elems + uptoBulkAll spare + 1
  | .agg parts => uptoBulkAll parts + 1
  | .iface _ d => uptoBulk d + 1
  | .map entries => uptoBulkEntries entries + 1
  | .held _ => 1
def uptoBulkAll {H : Type} : List (DataW H) → Nat
  | [] => 0
  | d :: r => uptoBulk d + uptoBulkAll r
def uptoBulkEntries {H : Type} : List (Lit × DataW H) → Nat
  | [] => 0
  | x :: r => uptoBulkEntry x + uptoBulkEntries r
def uptoBulkEntry {H : Type} : Lit × DataW H → Nat
  | (.string bytes, d) => bytes.length + uptoBulk d + 1
  | (_, d) => uptoBulk d + 1
 end
def uptoSmall : (H : Type) → List (DataW H) → Bool := fun _ ds => decide (uptoBulkAll ds ≤ 1048576)
def OpenSpec.upto (s : _root_.Go.ChangeSpec) : _root_.Go.OpenSpec := { _root_.Go.OpenSpec.ofChange s with cond := some uptoSmall }

/-- 'astrolabelaw13.BessStep', WHERE WHAT IT READS IS OF BULK AT MOST 1048576: true; the input reads as it did. -/
def bessStepUptoRow : OpenClaim := { program := "ytpcdcpjjekkemaagreat", sum := "6ee6037a3d96f2dca94f7a1c1b9f56e07361a9d2e373a54b6af2091b23e1eba3", func := "astrolabe/astrolabelaw13.BessStep", spec := "bessStep", unfollowed := true, recurses := true, named := ["math/bits.overflowError"], apart := false, narrowed := true }
def BessStepUptoSaid : Prop := bessStepUptoRow.holds Tryz.pinned (OpenSpec.upto bessStepSpec)

/-- 'astrolabelaw13.BessSum', WHERE WHAT IT READS IS OF BULK AT MOST 1048576: true; the input reads as it did. -/
def bessSumUptoRow : OpenClaim := { program := "ytpcdcpjjekkemaagreat", sum := "6ee6037a3d96f2dca94f7a1c1b9f56e07361a9d2e373a54b6af2091b23e1eba3", func := "astrolabe/astrolabelaw13.BessSum", spec := "bessSum", unfollowed := true, recurses := true, named := ["math/bits.overflowError"], apart := false, narrowed := true }
def BessSumUptoSaid : Prop := bessSumUptoRow.holds Tryz.pinned (OpenSpec.upto bessSumSpec)

/-- 'astrolabelaw13.BessTurned', WHERE WHAT IT READS IS OF BULK AT MOST 1048576: true; the input reads as it did. -/
def bessTurnedUptoRow : OpenClaim := { program := "ytpcdcpjjekkemaagreat", sum := "6ee6037a3d96f2dca94f7a1c1b9f56e07361a9d2e373a54b6af2091b23e1eba3", func := "astrolabe/astrolabelaw13.BessTurned", spec := "bessTurned", unfollowed := true, recurses := true, named := ["math/bits.overflowError"], apart := false, narrowed := true }
def BessTurnedUptoSaid : Prop := bessTurnedUptoRow.holds Tryz.pinned (OpenSpec.upto bessTurnedSpec)

end Rows
end Go.Proofs.YtpcdcpjjekkemaaGreat
