/-
  No cell of these rows narrows 'for every input' (looked for: loops, veiled, ifaces, maps, wideKeys, modest, calm, conditions, laid).
  DERIVED. THE GIVEN ROWS OF THIS SEAT. 12 by the template 'for every input the law returns true; each argument reads behind the call as it read before'; 0 by the template 'total and deterministic' (their statements: YtoakhpdeadglpaaGreatTotals.lean).
  GIVEN WITH THE SEED: the statements are not yours to turn. If you find one false, say at which input.
  Laid BY PROGRAM, IN A SANDBOX (cutbox-rows.mjs): the forced cells as the released guide's own fill.sh prints them over the translation 396a52a393b278fd… (all of the seat's roots in one cut). By AI agents, Wed Nov 11 2026. No macro, syntax, notation, axiom, sorry.
-/
import Derived.Test.YtoakhpdeadglpaaGreatChecked
import GoSem.Claim
import GoSem.ClaimJoined
import GoSem.ClaimMapViews
import Derived.JoinedTies
import Derived.KernelRfl
namespace Go.Proofs.YtoakhpdeadglpaaGreat
/- THE CELL 'sum', in the pinned program and in every row, IS THE sha256 OF THE DUMP (.gsa) THAT YtoakhpdeadglpaaGreatProg.lean LOADS. Nothing in Lean hashes anything: it is a label: what it is worth is what the hold of that sum in a sandbox is worth. -/
noncomputable def Tryz.pinned : Pinned := { name := "ytoakhpdeadglpaagreat", sum := "396a52a393b278fdfb79069ab986cd66cdf87964b367ac799ffb72032d2b299d", checked := Tryz.checked }
namespace Rows
def none {H : Type} : Left H := { results := [], args := [] }

/-- 'astrolabelaw14.FunEvals': WHATEVER THE INPUT: true; the input reads as it did. -/
def funEvalsSpec : ChangeSpec := { name := "funEvals", fn := fun _ => fun
  | [d1, d2, d3, d4] => { results := [.lit (.bool true)], args := [d1, d2, d3, d4] }
  | _ => none }
def funEvalsRow : OpenClaim := { program := "ytoakhpdeadglpaagreat", sum := "396a52a393b278fdfb79069ab986cd66cdf87964b367ac799ffb72032d2b299d", func := "astrolabe/astrolabelaw14.FunEvals", spec := "funEvals", unfollowed := true, recurses := true, named := ["math/bits.overflowError"], apart := false }
def FunEvalsSaid : Prop := funEvalsRow.holds Tryz.pinned (OpenSpec.ofChange funEvalsSpec)

/-- ITS FALSE NEIGHBOUR: 'it returns false'. Refute it at one input. -/
def funEvalsWrong : ChangeSpec := { name := "funEvals", fn := fun _ => fun
  | [d1, d2, d3, d4] => { results := [.lit (.bool false)], args := [d1, d2, d3, d4] }
  | _ => none }
def FunEvalsWrongFalsely : Prop := funEvalsRow.holds Tryz.pinned (OpenSpec.ofChange funEvalsWrong)

/-- 'astrolabelaw14.FunNames': WHATEVER THE INPUT: true; the input reads as it did. -/
def funNamesSpec : ChangeSpec := { name := "funNames", fn := fun _ => fun
  | [d1, d2, d3] => { results := [.lit (.bool true)], args := [d1, d2, d3] }
  | _ => none }
def funNamesRow : OpenClaim := { program := "ytoakhpdeadglpaagreat", sum := "396a52a393b278fdfb79069ab986cd66cdf87964b367ac799ffb72032d2b299d", func := "astrolabe/astrolabelaw14.FunNames", spec := "funNames", unfollowed := true, recurses := true, named := ["math/bits.overflowError"], apart := false }
def FunNamesSaid : Prop := funNamesRow.holds Tryz.pinned (OpenSpec.ofChange funNamesSpec)

/-- ITS FALSE NEIGHBOUR: 'it returns false'. Refute it at one input. -/
def funNamesWrong : ChangeSpec := { name := "funNames", fn := fun _ => fun
  | [d1, d2, d3] => { results := [.lit (.bool false)], args := [d1, d2, d3] }
  | _ => none }
def FunNamesWrongFalsely : Prop := funNamesRow.holds Tryz.pinned (OpenSpec.ofChange funNamesWrong)

/-- 'astrolabelaw14.FunNested': WHATEVER THE INPUT: true; the input reads as it did. -/
def funNestedSpec : ChangeSpec := { name := "funNested", fn := fun _ => fun
  | [d1, d2, d3, d4, d5] => { results := [.lit (.bool true)], args := [d1, d2, d3, d4, d5] }
  | _ => none }
def funNestedRow : OpenClaim := { program := "ytoakhpdeadglpaagreat", sum := "396a52a393b278fdfb79069ab986cd66cdf87964b367ac799ffb72032d2b299d", func := "astrolabe/astrolabelaw14.FunNested", spec := "funNested", unfollowed := true, recurses := true, named := ["math/bits.overflowError"], apart := false }
def FunNestedSaid : Prop := funNestedRow.holds Tryz.pinned (OpenSpec.ofChange funNestedSpec)

/-- ITS FALSE NEIGHBOUR: 'it returns false'. Refute it at one input. -/
def funNestedWrong : ChangeSpec := { name := "funNested", fn := fun _ => fun
  | [d1, d2, d3, d4, d5] => { results := [.lit (.bool false)], args := [d1, d2, d3, d4, d5] }
  | _ => none }
def FunNestedWrongFalsely : Prop := funNestedRow.holds Tryz.pinned (OpenSpec.ofChange funNestedWrong)

/-- 'astrolabelaw14.FunBounds': WHATEVER THE INPUT: true; the input reads as it did. -/
def funBoundsSpec : ChangeSpec := { name := "funBounds", fn := fun _ => fun
  | [d1, d2, d3, d4, d5, d6] => { results := [.lit (.bool true)], args := [d1, d2, d3, d4, d5, d6] }
  | _ => none }
def funBoundsRow : OpenClaim := { program := "ytoakhpdeadglpaagreat", sum := "396a52a393b278fdfb79069ab986cd66cdf87964b367ac799ffb72032d2b299d", func := "astrolabe/astrolabelaw14.FunBounds", spec := "funBounds", unfollowed := true, recurses := true, named := ["math/bits.overflowError"], apart := false }
def FunBoundsSaid : Prop := funBoundsRow.holds Tryz.pinned (OpenSpec.ofChange funBoundsSpec)

/-- ITS FALSE NEIGHBOUR: 'it returns false'. Refute it at one input. -/
def funBoundsWrong : ChangeSpec := { name := "funBounds", fn := fun _ => fun
  | [d1, d2, d3, d4, d5, d6] => { results := [.lit (.bool false)], args := [d1, d2, d3, d4, d5, d6] }
  | _ => none }
def FunBoundsWrongFalsely : Prop := funBoundsRow.holds Tryz.pinned (OpenSpec.ofChange funBoundsWrong)

/-- 'astrolabelaw15.ChebNodes': WHATEVER THE INPUT: true; the input reads as it did. -/
def chebNodesSpec : ChangeSpec := { name := "chebNodes", fn := fun _ => fun
  | [d1, d2] => { results := [.lit (.bool true)], args := [d1, d2] }
  | _ => none }
def chebNodesRow : OpenClaim := { program := "ytoakhpdeadglpaagreat", sum := "396a52a393b278fdfb79069ab986cd66cdf87964b367ac799ffb72032d2b299d", func := "astrolabe/astrolabelaw15.ChebNodes", spec := "chebNodes", unfollowed := true, recurses := true, named := ["math/bits.overflowError"], apart := false }
def ChebNodesSaid : Prop := chebNodesRow.holds Tryz.pinned (OpenSpec.ofChange chebNodesSpec)

/-- ITS FALSE NEIGHBOUR: 'it returns false'. Refute it at one input. -/
def chebNodesWrong : ChangeSpec := { name := "chebNodes", fn := fun _ => fun
  | [d1, d2] => { results := [.lit (.bool false)], args := [d1, d2] }
  | _ => none }
def ChebNodesWrongFalsely : Prop := chebNodesRow.holds Tryz.pinned (OpenSpec.ofChange chebNodesWrong)

/-- 'astrolabelaw15.ChebMakes': WHATEVER THE INPUT: true; the input reads as it did. -/
def chebMakesSpec : ChangeSpec := { name := "chebMakes", fn := fun _ => fun
  | [d1, d2, d3, d4, d5] => { results := [.lit (.bool true)], args := [d1, d2, d3, d4, d5] }
  | _ => none }
def chebMakesRow : OpenClaim := { program := "ytoakhpdeadglpaagreat", sum := "396a52a393b278fdfb79069ab986cd66cdf87964b367ac799ffb72032d2b299d", func := "astrolabe/astrolabelaw15.ChebMakes", spec := "chebMakes", unfollowed := true, recurses := true, named := ["math/bits.overflowError"], apart := false }
def ChebMakesSaid : Prop := chebMakesRow.holds Tryz.pinned (OpenSpec.ofChange chebMakesSpec)

/-- ITS FALSE NEIGHBOUR: 'it returns false'. Refute it at one input. -/
def chebMakesWrong : ChangeSpec := { name := "chebMakes", fn := fun _ => fun
  | [d1, d2, d3, d4, d5] => { results := [.lit (.bool false)], args := [d1, d2, d3, d4, d5] }
  | _ => none }
def ChebMakesWrongFalsely : Prop := chebMakesRow.holds Tryz.pinned (OpenSpec.ofChange chebMakesWrong)

/-- 'astrolabelaw15.ChebBuilds': WHATEVER THE INPUT: true; the input reads as it did. -/
def chebBuildsSpec : ChangeSpec := { name := "chebBuilds", fn := fun _ => fun
  | [d1, d2, d3, d4, d5, d6, d7] => { results := [.lit (.bool true)], args := [d1, d2, d3, d4, d5, d6, d7] }
  | _ => none }
def chebBuildsRow : OpenClaim := { program := "ytoakhpdeadglpaagreat", sum := "396a52a393b278fdfb79069ab986cd66cdf87964b367ac799ffb72032d2b299d", func := "astrolabe/astrolabelaw15.ChebBuilds", spec := "chebBuilds", unfollowed := true, recurses := true, named := ["math/bits.overflowError"], apart := false }
def ChebBuildsSaid : Prop := chebBuildsRow.holds Tryz.pinned (OpenSpec.ofChange chebBuildsSpec)

/-- ITS FALSE NEIGHBOUR: 'it returns false'. Refute it at one input. -/
def chebBuildsWrong : ChangeSpec := { name := "chebBuilds", fn := fun _ => fun
  | [d1, d2, d3, d4, d5, d6, d7] => { results := [.lit (.bool false)], args := [d1, d2, d3, d4, d5, d6, d7] }
  | _ => none }
def ChebBuildsWrongFalsely : Prop := chebBuildsRow.holds Tryz.pinned (OpenSpec.ofChange chebBuildsWrong)

/-- 'astrolabelaw15.ChebLine': WHATEVER THE INPUT: true; the input reads as it did. -/
def chebLineSpec : ChangeSpec := { name := "chebLine", fn := fun _ => fun
  | [d1, d2, d3, d4] => { results := [.lit (.bool true)], args := [d1, d2, d3, d4] }
  | _ => none }
def chebLineRow : OpenClaim := { program := "ytoakhpdeadglpaagreat", sum := "396a52a393b278fdfb79069ab986cd66cdf87964b367ac799ffb72032d2b299d", func := "astrolabe/astrolabelaw15.ChebLine", spec := "chebLine", unfollowed := true, recurses := true, named := ["math/bits.overflowError"], apart := false }
def ChebLineSaid : Prop := chebLineRow.holds Tryz.pinned (OpenSpec.ofChange chebLineSpec)

/-- ITS FALSE NEIGHBOUR: 'it returns false'. Refute it at one input. -/
def chebLineWrong : ChangeSpec := { name := "chebLine", fn := fun _ => fun
  | [d1, d2, d3, d4] => { results := [.lit (.bool false)], args := [d1, d2, d3, d4] }
  | _ => none }
def ChebLineWrongFalsely : Prop := chebLineRow.holds Tryz.pinned (OpenSpec.ofChange chebLineWrong)

/-- 'astrolabelaw15.ChebFalls': WHATEVER THE INPUT: true; the input reads as it did. -/
def chebFallsSpec : ChangeSpec := { name := "chebFalls", fn := fun _ => fun
  | [d1, d2] => { results := [.lit (.bool true)], args := [d1, d2] }
  | _ => none }
def chebFallsRow : OpenClaim := { program := "ytoakhpdeadglpaagreat", sum := "396a52a393b278fdfb79069ab986cd66cdf87964b367ac799ffb72032d2b299d", func := "astrolabe/astrolabelaw15.ChebFalls", spec := "chebFalls", unfollowed := true, recurses := true, named := ["math/bits.overflowError"], apart := false }
def ChebFallsSaid : Prop := chebFallsRow.holds Tryz.pinned (OpenSpec.ofChange chebFallsSpec)

/-- ITS FALSE NEIGHBOUR: 'it returns false'. Refute it at one input. -/
def chebFallsWrong : ChangeSpec := { name := "chebFalls", fn := fun _ => fun
  | [d1, d2] => { results := [.lit (.bool false)], args := [d1, d2] }
  | _ => none }
def ChebFallsWrongFalsely : Prop := chebFallsRow.holds Tryz.pinned (OpenSpec.ofChange chebFallsWrong)

/-- 'astrolabelaw15.ChebHalves': WHATEVER THE INPUT: true; the input reads as it did. -/
def chebHalvesSpec : ChangeSpec := { name := "chebHalves", fn := fun _ => fun
  | [d1, d2, d3, d4] => { results := [.lit (.bool true)], args := [d1, d2, d3, d4] }
  | _ => none }
def chebHalvesRow : OpenClaim := { program := "ytoakhpdeadglpaagreat", sum := "396a52a393b278fdfb79069ab986cd66cdf87964b367ac799ffb72032d2b299d", func := "astrolabe/astrolabelaw15.ChebHalves", spec := "chebHalves", unfollowed := true, recurses := true, named := ["math/bits.overflowError"], apart := false }
def ChebHalvesSaid : Prop := chebHalvesRow.holds Tryz.pinned (OpenSpec.ofChange chebHalvesSpec)

/-- ITS FALSE NEIGHBOUR: 'it returns false'. Refute it at one input. -/
def chebHalvesWrong : ChangeSpec := { name := "chebHalves", fn := fun _ => fun
  | [d1, d2, d3, d4] => { results := [.lit (.bool false)], args := [d1, d2, d3, d4] }
  | _ => none }
def ChebHalvesWrongFalsely : Prop := chebHalvesRow.holds Tryz.pinned (OpenSpec.ofChange chebHalvesWrong)

/-- 'astrolabelaw15.ChebNeeds': WHATEVER THE INPUT: true; the input reads as it did. -/
def chebNeedsSpec : ChangeSpec := { name := "chebNeeds", fn := fun _ => fun
  | [d1, d2, d3] => { results := [.lit (.bool true)], args := [d1, d2, d3] }
  | _ => none }
def chebNeedsRow : OpenClaim := { program := "ytoakhpdeadglpaagreat", sum := "396a52a393b278fdfb79069ab986cd66cdf87964b367ac799ffb72032d2b299d", func := "astrolabe/astrolabelaw15.ChebNeeds", spec := "chebNeeds", unfollowed := true, recurses := true, named := ["math/bits.overflowError"], apart := false }
def ChebNeedsSaid : Prop := chebNeedsRow.holds Tryz.pinned (OpenSpec.ofChange chebNeedsSpec)

/-- ITS FALSE NEIGHBOUR: 'it returns false'. Refute it at one input. -/
def chebNeedsWrong : ChangeSpec := { name := "chebNeeds", fn := fun _ => fun
  | [d1, d2, d3] => { results := [.lit (.bool false)], args := [d1, d2, d3] }
  | _ => none }
def ChebNeedsWrongFalsely : Prop := chebNeedsRow.holds Tryz.pinned (OpenSpec.ofChange chebNeedsWrong)

/-- 'astrolabelaw15.ChebTells': WHATEVER THE INPUT: true; the input reads as it did. -/
def chebTellsSpec : ChangeSpec := { name := "chebTells", fn := fun _ => fun
  | [d1, d2, d3, d4, d5] => { results := [.lit (.bool true)], args := [d1, d2, d3, d4, d5] }
  | _ => none }
def chebTellsRow : OpenClaim := { program := "ytoakhpdeadglpaagreat", sum := "396a52a393b278fdfb79069ab986cd66cdf87964b367ac799ffb72032d2b299d", func := "astrolabe/astrolabelaw15.ChebTells", spec := "chebTells", unfollowed := true, recurses := true, named := ["math/bits.overflowError"], apart := false }
def ChebTellsSaid : Prop := chebTellsRow.holds Tryz.pinned (OpenSpec.ofChange chebTellsSpec)

/-- ITS FALSE NEIGHBOUR: 'it returns false'. Refute it at one input. -/
def chebTellsWrong : ChangeSpec := { name := "chebTells", fn := fun _ => fun
  | [d1, d2, d3, d4, d5] => { results := [.lit (.bool false)], args := [d1, d2, d3, d4, d5] }
  | _ => none }
def ChebTellsWrongFalsely : Prop := chebTellsRow.holds Tryz.pinned (OpenSpec.ofChange chebTellsWrong)

/- THE SECOND FORM. 'bulk': how many values and letters a reading holds, each counted each time it is reached (what is shared counts as often as it is met; a slice's spare places count too). A statement '..UptoSaid' is the law's where the arguments, and the package variables that the reading takes, are together of bulk at most 1048576: NARROWER than '..Said'. Prove '..Said' where nothing that the law and all that it calls make is longer than what came in: it says more and counts as full. Else prove '..UptoSaid'. A law counts once. -/
mutual
def uptoBulk {H : Type} : DataW H → Nat
  | .lit (.string bytes) => bytes.length + 1
  | .lit _ => 1
  | .nil => 1
  | .ptr d => uptoBulk d + 1
  | .slice elems spare => uptoBulkAll elems + uptoBulkAll spare + 1
  | .agg parts => uptoBulkAll parts + 1
  | .iface _ d => uptoBulk d + 1
  | .map entries => uptoBulkEntries entries + 1
  | .held _ => 1
def uptoBulkAll {H : Type} : List (DataW H) → Nat
  | [] => 0
  | d :: r => uptoBulk d + uptoBulkAll r
def uptoBulkEntries {H : Type} : List (Lit × DataW H) → Nat
  | [] => 0
  | x :: r => uptoBulkEntry x + uptoBulkEntries r
def uptoBulkEntry {H : Type} : Lit × DataW H → Nat
  | (.string bytes, d) => bytes.length + uptoBulk d + 1
  | (_, d) => uptoBulk d + 1
 end
def uptoSmall : (H : Type) → List (DataW H) → Bool := fun _ ds => decide (uptoBulkAll ds ≤ 1048576)
def OpenSpec.upto (s : _root_.Go.ChangeSpec) : _root_.Go.OpenSpec := { _root_.Go.OpenSpec.ofChange s with cond := some uptoSmall }

/-- 'astrolabelaw14.FunEvals', WHERE WHAT IT READS IS OF BULK AT MOST 1048576: true; the input reads as it did. -/
def funEvalsUptoRow : OpenClaim := { program := "ytoakhpdeadglpaagreat", sum := "396a52a393b278fdfb79069ab986cd66cdf87964b367ac799ffb72032d2b299d", func := "astrolabe/astrolabelaw14.FunEvals", spec := "funEvals", unfollowed := true, recurses := true, named := ["math/bits.overflowError"], apart := false, narrowed := true }
def FunEvalsUptoSaid : Prop := funEvalsUptoRow.holds Tryz.pinned (OpenSpec.upto funEvalsSpec)

/-- 'astrolabelaw14.FunNames', WHERE WHAT IT READS IS OF BULK AT MOST 1048576: true; the input reads as it did. -/
def funNamesUptoRow : OpenClaim := { program := "ytoakhpdeadglpaagreat", sum := "396a52a393b278fdfb79069ab986cd66cdf87964b367ac799ffb72032d2b299d", func := "astrolabe/astrolabelaw14.FunNames", spec := "funNames", unfollowed := true, recurses := true, named := ["math/bits.overflowError"], apart := false, narrowed := true }
def FunNamesUptoSaid : Prop := funNamesUptoRow.holds Tryz.pinned (OpenSpec.upto funNamesSpec)

/-- 'astrolabelaw14.FunNested', WHERE WHAT IT READS IS OF BULK AT MOST 1048576: true; the input reads as it did. -/
def funNestedUptoRow : OpenClaim := { program := "ytoakhpdeadglpaagreat", sum := "396a52a393b278fdfb79069ab986cd66cdf87964b367ac799ffb72032d2b299d", func := "astrolabe/astrolabelaw14.FunNested", spec := "funNested", unfollowed := true, recurses := true, named := ["math/bits.overflowError"], apart := false, narrowed := true }
def FunNestedUptoSaid : Prop := funNestedUptoRow.holds Tryz.pinned (OpenSpec.upto funNestedSpec)

/-- 'astrolabelaw14.FunBounds', WHERE WHAT IT READS IS OF BULK AT MOST 1048576: true; the input reads as it did. -/
def funBoundsUptoRow : OpenClaim := { program := "ytoakhpdeadglpaagreat", sum := "396a52a393b278fdfb79069ab986cd66cdf87964b367ac799ffb72032d2b299d", func := "astrolabe/astrolabelaw14.FunBounds", spec := "funBounds", unfollowed := true, recurses := true, named := ["math/bits.overflowError"], apart := false, narrowed := true }
def FunBoundsUptoSaid : Prop := funBoundsUptoRow.holds Tryz.pinned (OpenSpec.upto funBoundsSpec)

/-- 'astrolabelaw15.ChebNodes', WHERE WHAT IT READS IS OF BULK AT MOST 1048576: true; the input reads as it did. -/
def chebNodesUptoRow : OpenClaim := { program := "ytoakhpdeadglpaagreat", sum := "396a52a393b278fdfb79069ab986cd66cdf87964b367ac799ffb72032d2b299d", func := "astrolabe/astrolabelaw15.ChebNodes", spec := "chebNodes", unfollowed := true, recurses := true, named := ["math/bits.overflowError"], apart := false, narrowed := true }
def ChebNodesUptoSaid : Prop := chebNodesUptoRow.holds Tryz.pinned (OpenSpec.upto chebNodesSpec)

/-- 'astrolabelaw15.ChebMakes', WHERE WHAT IT READS IS OF BULK AT MOST 1048576: true; the input reads as it did. -/
def chebMakesUptoRow : OpenClaim := { program := "ytoakhpdeadglpaagreat", sum := "396a52a393b278fdfb79069ab986cd66cdf87964b367ac799ffb72032d2b299d", func := "astrolabe/astrolabelaw15.ChebMakes", spec := "chebMakes", unfollowed := true, recurses := true, named := ["math/bits.overflowError"], apart := false, narrowed := true }
def ChebMakesUptoSaid : Prop := chebMakesUptoRow.holds Tryz.pinned (OpenSpec.upto chebMakesSpec)

/-- 'astrolabelaw15.ChebBuilds', WHERE WHAT IT READS IS OF BULK AT MOST 1048576: true; the input reads as it did. -/
def chebBuildsUptoRow : OpenClaim := { program := "ytoakhpdeadglpaagreat", sum := "396a52a393b278fdfb79069ab986cd66cdf87964b367ac799ffb72032d2b299d", func := "astrolabe/astrolabelaw15.ChebBuilds", spec := "chebBuilds", unfollowed := true, recurses := true, named := ["math/bits.overflowError"], apart := false, narrowed := true }
def ChebBuildsUptoSaid : Prop := chebBuildsUptoRow.holds Tryz.pinned (OpenSpec.upto chebBuildsSpec)

/-- 'astrolabelaw15.ChebLine', WHERE WHAT IT READS IS OF BULK AT MOST 1048576: true; the input reads as it did. -/
def chebLineUptoRow : OpenClaim := { program := "ytoakhpdeadglpaagreat", sum := "396a52a393b278fdfb79069ab986cd66cdf87964b367ac799ffb72032d2b299d", func := "astrolabe/astrolabelaw15.ChebLine", spec := "chebLine", unfollowed := true, recurses := true, named := ["math/bits.overflowError"], apart := false, narrowed := true }
def ChebLineUptoSaid : Prop := chebLineUptoRow.holds Tryz.pinned (OpenSpec.upto chebLineSpec)

/-- 'astrolabelaw15.ChebFalls', WHERE WHAT IT READS IS OF BULK AT MOST 1048576: true; the input reads as it did. -/
def chebFallsUptoRow : OpenClaim := { program := "ytoakhpdeadglpaagreat", sum := "396a52a393b278fdfb79069ab986cd66cdf87964b367ac799ffb72032d2b299d", func := "astrolabe/astrolabelaw15.ChebFalls", spec := "chebFalls", unfollowed := true, recurses := true, named := ["math/bits.overflowError"], apart := false, narrowed := true }
def ChebFallsUptoSaid : Prop := chebFallsUptoRow.holds Tryz.pinned (OpenSpec.upto chebFallsSpec)

/-- 'astrolabelaw15.ChebHalves', WHERE WHAT IT READS IS OF BULK AT MOST 1048576: true; the input reads as it did. -/
def chebHalvesUptoRow : OpenClaim := { program := "ytoakhpdeadglpaagreat", sum := "396a52a393b278fdfb79069ab986cd66cdf87964b367ac799ffb72032d2b299d", func := "astrolabe/astrolabelaw15.ChebHalves", spec := "chebHalves", unfollowed := true, recurses := true, named := ["math/bits.overflowError"], apart := false, narrowed := true }
def ChebHalvesUptoSaid : Prop := chebHalvesUptoRow.holds Tryz.pinned (OpenSpec.upto chebHalvesSpec)

/-- 'astrolabelaw15.ChebNeeds', WHERE WHAT IT READS IS OF BULK AT MOST 1048576: true; the input reads as it did. -/
def chebNeedsUptoRow : OpenClaim := { program := "ytoakhpdeadglpaagreat", sum := "396a52a393b278fdfb79069ab986cd66cdf87964b367ac799ffb72032d2b299d", func := "astrolabe/astrolabelaw15.ChebNeeds", spec := "chebNeeds", unfollowed := true, recurses := true, named := ["math/bits.overflowError"], apart := false, narrowed := true }
def ChebNeedsUptoSaid : Prop := chebNeedsUptoRow.holds Tryz.pinned (OpenSpec.upto chebNeedsSpec)

/-- 'astrolabelaw15.ChebTells', WHERE WHAT IT READS IS OF BULK AT MOST 1048576: true; the input reads as it did. -/
def chebTellsUptoRow : OpenClaim := { program := "ytoakhpdeadglpaagreat", sum := "396a52a393b278fdfb79069ab986cd66cdf87964b367ac799ffb72032d2b299d", func := "astrolabe/astrolabelaw15.ChebTells", spec := "chebTells", unfollowed := true, recurses := true, named := ["math/bits.overflowError"], apart := false, narrowed := true }
def ChebTellsUptoSaid : Prop := chebTellsUptoRow.holds Tryz.pinned (OpenSpec.upto chebTellsSpec)

end Rows
end Go.Proofs.YtoakhpdeadglpaaGreat
