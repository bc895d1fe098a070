/-
  No cell of these rows narrows 'for every input' (looked for: loops, veiled, ifaces, maps, wideKeys, modest, calm, conditions, laid).
  DERIVED. THE GIVEN ROWS OF THIS SEAT. 11 by the template 'for every input the law returns true; each argument reads behind the call as it read before'; 0 by the template 'total and deterministic' (their statements: YtpmpcohbpankaaaGreatTotals.lean).
  GIVEN WITH THE SEED: the statements are not yours to turn. If you find one false, say at which input.
  Laid BY PROGRAM, IN A SANDBOX (cutbox-rows.mjs): the forced cells as the released guide's own fill.sh prints them over the translation 4c2739baaccd34df… (all of the seat's roots in one cut). By AI agents, Wed Nov 11 2026. No macro, syntax, notation, axiom, sorry.
-/
import Derived.Test.YtpmpcohbpankaaaGreatChecked
import GoSem.Claim
import GoSem.ClaimJoined
import GoSem.ClaimMapViews
import Derived.JoinedTies
import Derived.KernelRfl
namespace Go.Proofs.YtpmpcohbpankaaaGreat
/- THE CELL 'sum', in the pinned program and in every row, IS THE sha256 OF THE DUMP (.gsa) THAT YtpmpcohbpankaaaGreatProg.lean LOADS. Nothing in Lean hashes anything: it is a label: what it is worth is what the hold of that sum in a sandbox is worth. -/
noncomputable def Tryz.pinned : Pinned := { name := "ytpmpcohbpankaaagreat", sum := "4c2739baaccd34dfd2ddf6b1c6d9e510949addfcf86aa85c7eea53ed0ed31824", checked := Tryz.checked }
namespace Rows
def none {H : Type} : Left H := { results := [], args := [] }

/-- 'astrolabelaw06.IvHolds': WHATEVER THE INPUT: true; the input reads as it did. -/
def ivHoldsSpec : ChangeSpec := { name := "ivHolds", fn := fun _ => fun
  | [d1, d2, d3, d4, d5, d6, d7] => { results := [.lit (.bool true)], args := [d1, d2, d3, d4, d5, d6, d7] }
  | _ => none }
def ivHoldsRow : OpenClaim := { program := "ytpmpcohbpankaaagreat", sum := "4c2739baaccd34dfd2ddf6b1c6d9e510949addfcf86aa85c7eea53ed0ed31824", func := "astrolabe/astrolabelaw06.IvHolds", spec := "ivHolds", unfollowed := true, recurses := true, named := ["math/bits.overflowError"], apart := false }
def IvHoldsSaid : Prop := ivHoldsRow.holds Tryz.pinned (OpenSpec.ofChange ivHoldsSpec)

/-- ITS FALSE NEIGHBOUR: 'it returns false'. Refute it at one input. -/
def ivHoldsWrong : ChangeSpec := { name := "ivHolds", fn := fun _ => fun
  | [d1, d2, d3, d4, d5, d6, d7] => { results := [.lit (.bool false)], args := [d1, d2, d3, d4, d5, d6, d7] }
  | _ => none }
def IvHoldsWrongFalsely : Prop := ivHoldsRow.holds Tryz.pinned (OpenSpec.ofChange ivHoldsWrong)

/-- 'astrolabelaw06.IvDivides': WHATEVER THE INPUT: true; the input reads as it did. -/
def ivDividesSpec : ChangeSpec := { name := "ivDivides", fn := fun _ => fun
  | [d1, d2, d3, d4, d5, d6, d7] => { results := [.lit (.bool true)], args := [d1, d2, d3, d4, d5, d6, d7] }
  | _ => none }
def ivDividesRow : OpenClaim := { program := "ytpmpcohbpankaaagreat", sum := "4c2739baaccd34dfd2ddf6b1c6d9e510949addfcf86aa85c7eea53ed0ed31824", func := "astrolabe/astrolabelaw06.IvDivides", spec := "ivDivides", unfollowed := true, recurses := true, named := ["math/bits.overflowError"], apart := false }
def IvDividesSaid : Prop := ivDividesRow.holds Tryz.pinned (OpenSpec.ofChange ivDividesSpec)

/-- ITS FALSE NEIGHBOUR: 'it returns false'. Refute it at one input. -/
def ivDividesWrong : ChangeSpec := { name := "ivDivides", fn := fun _ => fun
  | [d1, d2, d3, d4, d5, d6, d7] => { results := [.lit (.bool false)], args := [d1, d2, d3, d4, d5, d6, d7] }
  | _ => none }
def IvDividesWrongFalsely : Prop := ivDividesRow.holds Tryz.pinned (OpenSpec.ofChange ivDividesWrong)

/-- 'astrolabelaw06.IvParts': WHATEVER THE INPUT: true; the input reads as it did. -/
def ivPartsSpec : ChangeSpec := { name := "ivParts", fn := fun _ => fun
  | [d1, d2, d3, d4, d5] => { results := [.lit (.bool true)], args := [d1, d2, d3, d4, d5] }
  | _ => none }
def ivPartsRow : OpenClaim := { program := "ytpmpcohbpankaaagreat", sum := "4c2739baaccd34dfd2ddf6b1c6d9e510949addfcf86aa85c7eea53ed0ed31824", func := "astrolabe/astrolabelaw06.IvParts", spec := "ivParts", unfollowed := true, recurses := true, named := ["math/bits.overflowError"], apart := false }
def IvPartsSaid : Prop := ivPartsRow.holds Tryz.pinned (OpenSpec.ofChange ivPartsSpec)

/-- ITS FALSE NEIGHBOUR: 'it returns false'. Refute it at one input. -/
def ivPartsWrong : ChangeSpec := { name := "ivParts", fn := fun _ => fun
  | [d1, d2, d3, d4, d5] => { results := [.lit (.bool false)], args := [d1, d2, d3, d4, d5] }
  | _ => none }
def IvPartsWrongFalsely : Prop := ivPartsRow.holds Tryz.pinned (OpenSpec.ofChange ivPartsWrong)

/-- 'astrolabelaw06.IvStays': WHATEVER THE INPUT: true; the input reads as it did. -/
def ivStaysSpec : ChangeSpec := { name := "ivStays", fn := fun _ => fun
  | [d1, d2, d3] => { results := [.lit (.bool true)], args := [d1, d2, d3] }
  | _ => none }
def ivStaysRow : OpenClaim := { program := "ytpmpcohbpankaaagreat", sum := "4c2739baaccd34dfd2ddf6b1c6d9e510949addfcf86aa85c7eea53ed0ed31824", func := "astrolabe/astrolabelaw06.IvStays", spec := "ivStays", unfollowed := true, recurses := true, named := ["math/bits.overflowError"], apart := false }
def IvStaysSaid : Prop := ivStaysRow.holds Tryz.pinned (OpenSpec.ofChange ivStaysSpec)

/-- ITS FALSE NEIGHBOUR: 'it returns false'. Refute it at one input. -/
def ivStaysWrong : ChangeSpec := { name := "ivStays", fn := fun _ => fun
  | [d1, d2, d3] => { results := [.lit (.bool false)], args := [d1, d2, d3] }
  | _ => none }
def IvStaysWrongFalsely : Prop := ivStaysRow.holds Tryz.pinned (OpenSpec.ofChange ivStaysWrong)

/-- 'astrolabelaw07.SmallExp': WHATEVER THE INPUT: true; the input reads as it did. -/
def smallExpSpec : ChangeSpec := { name := "smallExp", fn := fun _ => fun
  | [d1, d2, d3] => { results := [.lit (.bool true)], args := [d1, d2, d3] }
  | _ => none }
def smallExpRow : OpenClaim := { program := "ytpmpcohbpankaaagreat", sum := "4c2739baaccd34dfd2ddf6b1c6d9e510949addfcf86aa85c7eea53ed0ed31824", func := "astrolabe/astrolabelaw07.SmallExp", spec := "smallExp", unfollowed := true, recurses := true, named := ["math/bits.overflowError"], apart := false }
def SmallExpSaid : Prop := smallExpRow.holds Tryz.pinned (OpenSpec.ofChange smallExpSpec)

/-- ITS FALSE NEIGHBOUR: 'it returns false'. Refute it at one input. -/
def smallExpWrong : ChangeSpec := { name := "smallExp", fn := fun _ => fun
  | [d1, d2, d3] => { results := [.lit (.bool false)], args := [d1, d2, d3] }
  | _ => none }
def SmallExpWrongFalsely : Prop := smallExpRow.holds Tryz.pinned (OpenSpec.ofChange smallExpWrong)

/-- 'astrolabelaw07.SmallCircle': WHATEVER THE INPUT: true; the input reads as it did. -/
def smallCircleSpec : ChangeSpec := { name := "smallCircle", fn := fun _ => fun
  | [d1, d2] => { results := [.lit (.bool true)], args := [d1, d2] }
  | _ => none }
def smallCircleRow : OpenClaim := { program := "ytpmpcohbpankaaagreat", sum := "4c2739baaccd34dfd2ddf6b1c6d9e510949addfcf86aa85c7eea53ed0ed31824", func := "astrolabe/astrolabelaw07.SmallCircle", spec := "smallCircle", unfollowed := true, recurses := true, named := ["math/bits.overflowError"], apart := false }
def SmallCircleSaid : Prop := smallCircleRow.holds Tryz.pinned (OpenSpec.ofChange smallCircleSpec)

/-- ITS FALSE NEIGHBOUR: 'it returns false'. Refute it at one input. -/
def smallCircleWrong : ChangeSpec := { name := "smallCircle", fn := fun _ => fun
  | [d1, d2] => { results := [.lit (.bool false)], args := [d1, d2] }
  | _ => none }
def SmallCircleWrongFalsely : Prop := smallCircleRow.holds Tryz.pinned (OpenSpec.ofChange smallCircleWrong)

/-- 'astrolabelaw07.SmallSeries': WHATEVER THE INPUT: true; the input reads as it did. -/
def smallSeriesSpec : ChangeSpec := { name := "smallSeries", fn := fun _ => fun
  | [d1, d2, d3, d4] => { results := [.lit (.bool true)], args := [d1, d2, d3, d4] }
  | _ => none }
def smallSeriesRow : OpenClaim := { program := "ytpmpcohbpankaaagreat", sum := "4c2739baaccd34dfd2ddf6b1c6d9e510949addfcf86aa85c7eea53ed0ed31824", func := "astrolabe/astrolabelaw07.SmallSeries", spec := "smallSeries", unfollowed := true, recurses := true, named := ["math/bits.overflowError"], apart := false }
def SmallSeriesSaid : Prop := smallSeriesRow.holds Tryz.pinned (OpenSpec.ofChange smallSeriesSpec)

/-- ITS FALSE NEIGHBOUR: 'it returns false'. Refute it at one input. -/
def smallSeriesWrong : ChangeSpec := { name := "smallSeries", fn := fun _ => fun
  | [d1, d2, d3, d4] => { results := [.lit (.bool false)], args := [d1, d2, d3, d4] }
  | _ => none }
def SmallSeriesWrongFalsely : Prop := smallSeriesRow.holds Tryz.pinned (OpenSpec.ofChange smallSeriesWrong)

/-- 'astrolabelaw07.SmallOdd': WHATEVER THE INPUT: true; the input reads as it did. -/
def smallOddSpec : ChangeSpec := { name := "smallOdd", fn := fun _ => fun
  | [d1, d2] => { results := [.lit (.bool true)], args := [d1, d2] }
  | _ => none }
def smallOddRow : OpenClaim := { program := "ytpmpcohbpankaaagreat", sum := "4c2739baaccd34dfd2ddf6b1c6d9e510949addfcf86aa85c7eea53ed0ed31824", func := "astrolabe/astrolabelaw07.SmallOdd", spec := "smallOdd", unfollowed := true, recurses := true, named := ["math/bits.overflowError"], apart := false }
def SmallOddSaid : Prop := smallOddRow.holds Tryz.pinned (OpenSpec.ofChange smallOddSpec)

/-- ITS FALSE NEIGHBOUR: 'it returns false'. Refute it at one input. -/
def smallOddWrong : ChangeSpec := { name := "smallOdd", fn := fun _ => fun
  | [d1, d2] => { results := [.lit (.bool false)], args := [d1, d2] }
  | _ => none }
def SmallOddWrongFalsely : Prop := smallOddRow.holds Tryz.pinned (OpenSpec.ofChange smallOddWrong)

/-- 'astrolabelaw08.KonstKnown': WHATEVER THE INPUT: true; the input reads as it did. -/
def konstKnownSpec : ChangeSpec := { name := "konstKnown", fn := fun _ => fun
  | [d] => { results := [.lit (.bool true)], args := [d] }
  | _ => none }
def konstKnownRow : OpenClaim := { program := "ytpmpcohbpankaaagreat", sum := "4c2739baaccd34dfd2ddf6b1c6d9e510949addfcf86aa85c7eea53ed0ed31824", func := "astrolabe/astrolabelaw08.KonstKnown", spec := "konstKnown", unfollowed := true, recurses := true, named := ["math/bits.overflowError"], apart := false }
def KonstKnownSaid : Prop := konstKnownRow.holds Tryz.pinned (OpenSpec.ofChange konstKnownSpec)

/-- ITS FALSE NEIGHBOUR: 'it returns false'. Refute it at one input. -/
def konstKnownWrong : ChangeSpec := { name := "konstKnown", fn := fun _ => fun
  | [d] => { results := [.lit (.bool false)], args := [d] }
  | _ => none }
def KonstKnownWrongFalsely : Prop := konstKnownRow.holds Tryz.pinned (OpenSpec.ofChange konstKnownWrong)

/-- 'astrolabelaw08.KonstTold': WHATEVER THE INPUT: true; the input reads as it did. -/
def konstToldSpec : ChangeSpec := { name := "konstTold", fn := fun _ => fun
  | [d1, d2] => { results := [.lit (.bool true)], args := [d1, d2] }
  | _ => none }
def konstToldRow : OpenClaim := { program := "ytpmpcohbpankaaagreat", sum := "4c2739baaccd34dfd2ddf6b1c6d9e510949addfcf86aa85c7eea53ed0ed31824", func := "astrolabe/astrolabelaw08.KonstTold", spec := "konstTold", unfollowed := true, recurses := true, named := ["math/bits.overflowError"], apart := false }
def KonstToldSaid : Prop := konstToldRow.holds Tryz.pinned (OpenSpec.ofChange konstToldSpec)

/-- ITS FALSE NEIGHBOUR: 'it returns false'. Refute it at one input. -/
def konstToldWrong : ChangeSpec := { name := "konstTold", fn := fun _ => fun
  | [d1, d2] => { results := [.lit (.bool false)], args := [d1, d2] }
  | _ => none }
def KonstToldWrongFalsely : Prop := konstToldRow.holds Tryz.pinned (OpenSpec.ofChange konstToldWrong)

/-- 'astrolabelaw08.KonstRoot': WHATEVER THE INPUT: true; the input reads as it did. -/
def konstRootSpec : ChangeSpec := { name := "konstRoot", fn := fun _ => fun
  | [d] => { results := [.lit (.bool true)], args := [d] }
  | _ => none }
def konstRootRow : OpenClaim := { program := "ytpmpcohbpankaaagreat", sum := "4c2739baaccd34dfd2ddf6b1c6d9e510949addfcf86aa85c7eea53ed0ed31824", func := "astrolabe/astrolabelaw08.KonstRoot", spec := "konstRoot", unfollowed := true, recurses := true, named := ["math/bits.overflowError"], apart := false }
def KonstRootSaid : Prop := konstRootRow.holds Tryz.pinned (OpenSpec.ofChange konstRootSpec)

/-- ITS FALSE NEIGHBOUR: 'it returns false'. Refute it at one input. -/
def konstRootWrong : ChangeSpec := { name := "konstRoot", fn := fun _ => fun
  | [d] => { results := [.lit (.bool false)], args := [d] }
  | _ => none }
def KonstRootWrongFalsely : Prop := konstRootRow.holds Tryz.pinned (OpenSpec.ofChange konstRootWrong)

/- THE SECOND FORM. 'bulk': how many values and letters a reading holds, each counted each time it is reached (what is shared counts as often as it is met; a slice's spare places count too). A statement '..UptoSaid' is the law's where the arguments, and the package variables that the reading takes, are together of bulk at most 1048576: NARROWER than '..Said'. Prove '..Said' where nothing that the law and all that it calls make is longer than what came in: it says more and counts as full. Else prove '..UptoSaid'. A law counts once. -/
mutual
def uptoBulk {H : Type} : DataW H → Nat
  | .lit (.string bytes) => bytes.length + 1
  | .lit _ => 1
  | .nil => 1
  | .ptr d => uptoBulk d + 1
  | .slice elems spare => uptoBulkAll elems + uptoBulkAll spare + 1
  | .agg parts => uptoBulkAll parts + 1
  | .iface _ d => uptoBulk d + 1
  | .map entries => uptoBulkEntries entries + 1
  | .held _ => 1
def uptoBulkAll {H : Type} : List (DataW H) → Nat
  | [] => 0
  | d :: r => uptoBulk d + uptoBulkAll r
def uptoBulkEntries {H : Type} : List (Lit × DataW H) → Nat
  | [] => 0
  | x :: r => uptoBulkEntry x + uptoBulkEntries r
def uptoBulkEntry {H : Type} : Lit × DataW H → Nat
  | (.string bytes, d) => bytes.length + uptoBulk d + 1
  | (_, d) => uptoBulk d + 1
 end
def uptoSmall : (H : Type) → List (DataW H) → Bool := fun _ ds => decide (uptoBulkAll ds ≤ 1048576)
def OpenSpec.upto (s : _root_.Go.ChangeSpec) : _root_.Go.OpenSpec := { _root_.Go.OpenSpec.ofChange s with cond := some uptoSmall }

/-- 'astrolabelaw06.IvHolds', WHERE WHAT IT READS IS OF BULK AT MOST 1048576: true; the input reads as it did. -/
def ivHoldsUptoRow : OpenClaim := { program := "ytpmpcohbpankaaagreat", sum := "4c2739baaccd34dfd2ddf6b1c6d9e510949addfcf86aa85c7eea53ed0ed31824", func := "astrolabe/astrolabelaw06.IvHolds", spec := "ivHolds", unfollowed := true, recurses := true, named := ["math/bits.overflowError"], apart := false, narrowed := true }
def IvHoldsUptoSaid : Prop := ivHoldsUptoRow.holds Tryz.pinned (OpenSpec.upto ivHoldsSpec)

/-- 'astrolabelaw06.IvDivides', WHERE WHAT IT READS IS OF BULK AT MOST 1048576: true; the input reads as it did. -/
def ivDividesUptoRow : OpenClaim := { program := "ytpmpcohbpankaaagreat", sum := "4c2739baaccd34dfd2ddf6b1c6d9e510949addfcf86aa85c7eea53ed0ed31824", func := "astrolabe/astrolabelaw06.IvDivides", spec := "ivDivides", unfollowed := true, recurses := true, named := ["math/bits.overflowError"], apart := false, narrowed := true }
def IvDividesUptoSaid : Prop := ivDividesUptoRow.holds Tryz.pinned (OpenSpec.upto ivDividesSpec)

/-- 'astrolabelaw06.IvParts', WHERE WHAT IT READS IS OF BULK AT MOST 1048576: true; the input reads as it did. -/
def ivPartsUptoRow : OpenClaim := { program := "ytpmpcohbpankaaagreat", sum := "4c2739baaccd34dfd2ddf6b1c6d9e510949addfcf86aa85c7eea53ed0ed31824", func := "astrolabe/astrolabelaw06.IvParts", spec := "ivParts", unfollowed := true, recurses := true, named := ["math/bits.overflowError"], apart := false, narrowed := true }
def IvPartsUptoSaid : Prop := ivPartsUptoRow.holds Tryz.pinned (OpenSpec.upto ivPartsSpec)

/-- 'astrolabelaw06.IvStays', WHERE WHAT IT READS IS OF BULK AT MOST 1048576: true; the input reads as it did. -/
def ivStaysUptoRow : OpenClaim := { program := "ytpmpcohbpankaaagreat", sum := "4c2739baaccd34dfd2ddf6b1c6d9e510949addfcf86aa85c7eea53ed0ed31824", func := "astrolabe/astrolabelaw06.IvStays", spec := "ivStays", unfollowed := true, recurses := true, named := ["math/bits.overflowError"], apart := false, narrowed := true }
def IvStaysUptoSaid : Prop := ivStaysUptoRow.holds Tryz.pinned (OpenSpec.upto ivStaysSpec)

/-- 'astrolabelaw07.SmallExp', WHERE WHAT IT READS IS OF BULK AT MOST 1048576: true; the input reads as it did. -/
def smallExpUptoRow : OpenClaim := { program := "ytpmpcohbpankaaagreat", sum := "4c2739baaccd34dfd2ddf6b1c6d9e510949addfcf86aa85c7eea53ed0ed31824", func := "astrolabe/astrolabelaw07.SmallExp", spec := "smallExp", unfollowed := true, recurses := true, named := ["math/bits.overflowError"], apart := false, narrowed := true }
def SmallExpUptoSaid : Prop := smallExpUptoRow.holds Tryz.pinned (OpenSpec.upto smallExpSpec)

/-- 'astrolabelaw07.SmallCircle', WHERE WHAT IT READS IS OF BULK AT MOST 1048576: true; the input reads as it did. -/
def smallCircleUptoRow : OpenClaim := { program := "ytpmpcohbpankaaagreat", sum := "4c2739baaccd34dfd2ddf6b1c6d9e510949addfcf86aa85c7eea53ed0ed31824", func := "astrolabe/astrolabelaw07.SmallCircle", spec := "smallCircle", unfollowed := true, recurses := true, named := ["math/bits.overflowError"], apart := false, narrowed := true }
def SmallCircleUptoSaid : Prop := smallCircleUptoRow.holds Tryz.pinned (OpenSpec.upto smallCircleSpec)

/-- 'astrolabelaw07.SmallSeries', WHERE WHAT IT READS IS OF BULK AT MOST 1048576: true; the input reads as it did. -/
def smallSeriesUptoRow : OpenClaim := { program := "ytpmpcohbpankaaagreat", sum := "4c2739baaccd34dfd2ddf6b1c6d9e510949addfcf86aa85c7eea53ed0ed31824", func := "astrolabe/astrolabelaw07.SmallSeries", spec := "smallSeries", unfollowed := true, recurses := true, named := ["math/bits.overflowError"], apart := false, narrowed := true }
def SmallSeriesUptoSaid : Prop := smallSeriesUptoRow.holds Tryz.pinned (OpenSpec.upto smallSeriesSpec)

/-- 'astrolabelaw07.SmallOdd', WHERE WHAT IT READS IS OF BULK AT MOST 1048576: true; the input reads as it did. -/
def smallOddUptoRow : OpenClaim := { program := "ytpmpcohbpankaaagreat", sum := "4c2739baaccd34dfd2ddf6b1c6d9e510949addfcf86aa85c7eea53ed0ed31824", func := "astrolabe/astrolabelaw07.SmallOdd", spec := "smallOdd", unfollowed := true, recurses := true, named := ["math/bits.overflowError"], apart := false, narrowed := true }
def SmallOddUptoSaid : Prop := smallOddUptoRow.holds Tryz.pinned (OpenSpec.upto smallOddSpec)

/-- 'astrolabelaw08.KonstKnown', WHERE WHAT IT READS IS OF BULK AT MOST 1048576: true; the input reads as it did. -/
def konstKnownUptoRow : OpenClaim := { program := "ytpmpcohbpankaaagreat", sum := "4c2739baaccd34dfd2ddf6b1c6d9e510949addfcf86aa85c7eea53ed0ed31824", func := "astrolabe/astrolabelaw08.KonstKnown", spec := "konstKnown", unfollowed := true, recurses := true, named := ["math/bits.overflowError"], apart := false, narrowed := true }
def KonstKnownUptoSaid : Prop := konstKnownUptoRow.holds Tryz.pinned (OpenSpec.upto konstKnownSpec)

/-- 'astrolabelaw08.KonstTold', WHERE WHAT IT READS IS OF BULK AT MOST 1048576: true; the input reads as it did. -/
def konstToldUptoRow : OpenClaim := { program := "ytpmpcohbpankaaagreat", sum := "4c2739baaccd34dfd2ddf6b1c6d9e510949addfcf86aa85c7eea53ed0ed31824", func := "astrolabe/astrolabelaw08.KonstTold", spec := "konstTold", unfollowed := true, recurses := true, named := ["math/bits.overflowError"], apart := false, narrowed := true }
def KonstToldUptoSaid : Prop := konstToldUptoRow.holds Tryz.pinned (OpenSpec.upto konstToldSpec)

/-- 'astrolabelaw08.KonstRoot', WHERE WHAT IT READS IS OF BULK AT MOST 1048576: true; the input reads as it did. -/
def konstRootUptoRow : OpenClaim := { program := "ytpmpcohbpankaaagreat", sum := "4c2739baaccd34dfd2ddf6b1c6d9e510949addfcf86aa85c7eea53ed0ed31824", func := "astrolabe/astrolabelaw08.KonstRoot", spec := "konstRoot", unfollowed := true, recurses := true, named := ["math/bits.overflowError"], apart := false, narrowed := true }
def KonstRootUptoSaid : Prop := konstRootUptoRow.holds Tryz.pinned (OpenSpec.upto konstRootSpec)

end Rows
end Go.Proofs.YtpmpcohbpankaaaGreat
