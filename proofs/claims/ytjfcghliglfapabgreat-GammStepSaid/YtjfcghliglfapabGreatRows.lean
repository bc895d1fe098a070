/-
  No cell of these rows narrows 'for every input' (looked for: loops, veiled, ifaces, maps, wideKeys, modest, calm, conditions, laid).
  DERIVED. THE GIVEN ROWS OF THIS SEAT. 12 by the template 'for every input the law returns true; each argument reads behind the call as it read before'; 0 by the template 'total and deterministic' (their statements: YtjfcghliglfapabGreatTotals.lean).
  GIVEN WITH THE SEED: the statements are not yours to turn. If you find one false, say at which input.
  Laid BY PROGRAM, IN A SANDBOX (cutbox-rows.mjs): the forced cells as the released guide's own fill.sh prints them over the translation 2567638d9b4fc8d9… (all of the seat's roots in one cut). By AI agents, Wed Nov 11 2026. No macro, syntax, notation, axiom, sorry.
-/
import Derived.Test.YtjfcghliglfapabGreatChecked
import GoSem.Claim
import GoSem.ClaimJoined
import GoSem.ClaimMapViews
import Derived.JoinedTies
import Derived.KernelRfl
namespace Go.Proofs.YtjfcghliglfapabGreat
/- THE CELL 'sum', in the pinned program and in every row, IS THE sha256 OF THE DUMP (.gsa) THAT YtjfcghliglfapabGreatProg.lean LOADS. Nothing in Lean hashes anything: it is a label: what it is worth is what the hold of that sum in a sandbox is worth. -/
noncomputable def Tryz.pinned : Pinned := { name := "ytjfcghliglfapabgreat", sum := "2567638d9b4fc8d9d0cf132bfc88b397e3dafc27a1b96a697fa298dd9139f6a4", checked := Tryz.checked }
namespace Rows
def none {H : Type} : Left H := { results := [], args := [] }

/-- 'astrolabelaw10.TrigDouble': WHATEVER THE INPUT: true; the input reads as it did. -/
def trigDoubleSpec : ChangeSpec := { name := "trigDouble", fn := fun _ => fun
  | [d1, d2] => { results := [.lit (.bool true)], args := [d1, d2] }
  | _ => none }
def trigDoubleRow : OpenClaim := { program := "ytjfcghliglfapabgreat", sum := "2567638d9b4fc8d9d0cf132bfc88b397e3dafc27a1b96a697fa298dd9139f6a4", func := "astrolabe/astrolabelaw10.TrigDouble", spec := "trigDouble", unfollowed := true, recurses := true, named := ["math/bits.overflowError"], apart := false }
def TrigDoubleSaid : Prop := trigDoubleRow.holds Tryz.pinned (OpenSpec.ofChange trigDoubleSpec)

/-- ITS FALSE NEIGHBOUR: 'it returns false'. Refute it at one input. -/
def trigDoubleWrong : ChangeSpec := { name := "trigDouble", fn := fun _ => fun
  | [d1, d2] => { results := [.lit (.bool false)], args := [d1, d2] }
  | _ => none }
def TrigDoubleWrongFalsely : Prop := trigDoubleRow.holds Tryz.pinned (OpenSpec.ofChange trigDoubleWrong)

/-- 'astrolabelaw10.TrigCircle': WHATEVER THE INPUT: true; the input reads as it did. -/
def trigCircleSpec : ChangeSpec := { name := "trigCircle", fn := fun _ => fun
  | [d1, d2] => { results := [.lit (.bool true)], args := [d1, d2] }
  | _ => none }
def trigCircleRow : OpenClaim := { program := "ytjfcghliglfapabgreat", sum := "2567638d9b4fc8d9d0cf132bfc88b397e3dafc27a1b96a697fa298dd9139f6a4", func := "astrolabe/astrolabelaw10.TrigCircle", spec := "trigCircle", unfollowed := true, recurses := true, named := ["math/bits.overflowError"], apart := false }
def TrigCircleSaid : Prop := trigCircleRow.holds Tryz.pinned (OpenSpec.ofChange trigCircleSpec)

/-- ITS FALSE NEIGHBOUR: 'it returns false'. Refute it at one input. -/
def trigCircleWrong : ChangeSpec := { name := "trigCircle", fn := fun _ => fun
  | [d1, d2] => { results := [.lit (.bool false)], args := [d1, d2] }
  | _ => none }
def TrigCircleWrongFalsely : Prop := trigCircleRow.holds Tryz.pinned (OpenSpec.ofChange trigCircleWrong)

/-- 'astrolabelaw10.TrigAtan': WHATEVER THE INPUT: true; the input reads as it did. -/
def trigAtanSpec : ChangeSpec := { name := "trigAtan", fn := fun _ => fun
  | [d1, d2] => { results := [.lit (.bool true)], args := [d1, d2] }
  | _ => none }
def trigAtanRow : OpenClaim := { program := "ytjfcghliglfapabgreat", sum := "2567638d9b4fc8d9d0cf132bfc88b397e3dafc27a1b96a697fa298dd9139f6a4", func := "astrolabe/astrolabelaw10.TrigAtan", spec := "trigAtan", unfollowed := true, recurses := true, named := ["math/bits.overflowError"], apart := false }
def TrigAtanSaid : Prop := trigAtanRow.holds Tryz.pinned (OpenSpec.ofChange trigAtanSpec)

/-- ITS FALSE NEIGHBOUR: 'it returns false'. Refute it at one input. -/
def trigAtanWrong : ChangeSpec := { name := "trigAtan", fn := fun _ => fun
  | [d1, d2] => { results := [.lit (.bool false)], args := [d1, d2] }
  | _ => none }
def TrigAtanWrongFalsely : Prop := trigAtanRow.holds Tryz.pinned (OpenSpec.ofChange trigAtanWrong)

/-- 'astrolabelaw10.TrigBack': WHATEVER THE INPUT: true; the input reads as it did. -/
def trigBackSpec : ChangeSpec := { name := "trigBack", fn := fun _ => fun
  | [d1, d2] => { results := [.lit (.bool true)], args := [d1, d2] }
  | _ => none }
def trigBackRow : OpenClaim := { program := "ytjfcghliglfapabgreat", sum := "2567638d9b4fc8d9d0cf132bfc88b397e3dafc27a1b96a697fa298dd9139f6a4", func := "astrolabe/astrolabelaw10.TrigBack", spec := "trigBack", unfollowed := true, recurses := true, named := ["math/bits.overflowError"], apart := false }
def TrigBackSaid : Prop := trigBackRow.holds Tryz.pinned (OpenSpec.ofChange trigBackSpec)

/-- ITS FALSE NEIGHBOUR: 'it returns false'. Refute it at one input. -/
def trigBackWrong : ChangeSpec := { name := "trigBack", fn := fun _ => fun
  | [d1, d2] => { results := [.lit (.bool false)], args := [d1, d2] }
  | _ => none }
def TrigBackWrongFalsely : Prop := trigBackRow.holds Tryz.pinned (OpenSpec.ofChange trigBackWrong)

/-- 'astrolabelaw11.ErffRises': WHATEVER THE INPUT: true; the input reads as it did. -/
def erffRisesSpec : ChangeSpec := { name := "erffRises", fn := fun _ => fun
  | [d1, d2, d3] => { results := [.lit (.bool true)], args := [d1, d2, d3] }
  | _ => none }
def erffRisesRow : OpenClaim := { program := "ytjfcghliglfapabgreat", sum := "2567638d9b4fc8d9d0cf132bfc88b397e3dafc27a1b96a697fa298dd9139f6a4", func := "astrolabe/astrolabelaw11.ErffRises", spec := "erffRises", unfollowed := true, recurses := true, named := ["math/bits.overflowError"], apart := false }
def ErffRisesSaid : Prop := erffRisesRow.holds Tryz.pinned (OpenSpec.ofChange erffRisesSpec)

/-- ITS FALSE NEIGHBOUR: 'it returns false'. Refute it at one input. -/
def erffRisesWrong : ChangeSpec := { name := "erffRises", fn := fun _ => fun
  | [d1, d2, d3] => { results := [.lit (.bool false)], args := [d1, d2, d3] }
  | _ => none }
def ErffRisesWrongFalsely : Prop := erffRisesRow.holds Tryz.pinned (OpenSpec.ofChange erffRisesWrong)

/-- 'astrolabelaw11.ErffTold': WHATEVER THE INPUT: true; the input reads as it did. -/
def erffToldSpec : ChangeSpec := { name := "erffTold", fn := fun _ => fun
  | [d1, d2, d3] => { results := [.lit (.bool true)], args := [d1, d2, d3] }
  | _ => none }
def erffToldRow : OpenClaim := { program := "ytjfcghliglfapabgreat", sum := "2567638d9b4fc8d9d0cf132bfc88b397e3dafc27a1b96a697fa298dd9139f6a4", func := "astrolabe/astrolabelaw11.ErffTold", spec := "erffTold", unfollowed := true, recurses := true, named := ["math/bits.overflowError"], apart := false }
def ErffToldSaid : Prop := erffToldRow.holds Tryz.pinned (OpenSpec.ofChange erffToldSpec)

/-- ITS FALSE NEIGHBOUR: 'it returns false'. Refute it at one input. -/
def erffToldWrong : ChangeSpec := { name := "erffTold", fn := fun _ => fun
  | [d1, d2, d3] => { results := [.lit (.bool false)], args := [d1, d2, d3] }
  | _ => none }
def ErffToldWrongFalsely : Prop := erffToldRow.holds Tryz.pinned (OpenSpec.ofChange erffToldWrong)

/-- 'astrolabelaw11.ErffOne': WHATEVER THE INPUT: true; the input reads as it did. -/
def erffOneSpec : ChangeSpec := { name := "erffOne", fn := fun _ => fun
  | [d1, d2] => { results := [.lit (.bool true)], args := [d1, d2] }
  | _ => none }
def erffOneRow : OpenClaim := { program := "ytjfcghliglfapabgreat", sum := "2567638d9b4fc8d9d0cf132bfc88b397e3dafc27a1b96a697fa298dd9139f6a4", func := "astrolabe/astrolabelaw11.ErffOne", spec := "erffOne", unfollowed := true, recurses := true, named := ["math/bits.overflowError"], apart := false }
def ErffOneSaid : Prop := erffOneRow.holds Tryz.pinned (OpenSpec.ofChange erffOneSpec)

/-- ITS FALSE NEIGHBOUR: 'it returns false'. Refute it at one input. -/
def erffOneWrong : ChangeSpec := { name := "erffOne", fn := fun _ => fun
  | [d1, d2] => { results := [.lit (.bool false)], args := [d1, d2] }
  | _ => none }
def ErffOneWrongFalsely : Prop := erffOneRow.holds Tryz.pinned (OpenSpec.ofChange erffOneWrong)

/-- 'astrolabelaw12.GammLift': WHATEVER THE INPUT: true; the input reads as it did. -/
def gammLiftSpec : ChangeSpec := { name := "gammLift", fn := fun _ => fun
  | [d1, d2] => { results := [.lit (.bool true)], args := [d1, d2] }
  | _ => none }
def gammLiftRow : OpenClaim := { program := "ytjfcghliglfapabgreat", sum := "2567638d9b4fc8d9d0cf132bfc88b397e3dafc27a1b96a697fa298dd9139f6a4", func := "astrolabe/astrolabelaw12.GammLift", spec := "gammLift", unfollowed := true, recurses := true, named := ["math/bits.overflowError"], apart := false }
def GammLiftSaid : Prop := gammLiftRow.holds Tryz.pinned (OpenSpec.ofChange gammLiftSpec)

/-- ITS FALSE NEIGHBOUR: 'it returns false'. Refute it at one input. -/
def gammLiftWrong : ChangeSpec := { name := "gammLift", fn := fun _ => fun
  | [d1, d2] => { results := [.lit (.bool false)], args := [d1, d2] }
  | _ => none }
def GammLiftWrongFalsely : Prop := gammLiftRow.holds Tryz.pinned (OpenSpec.ofChange gammLiftWrong)

/-- 'astrolabelaw12.GammTold': WHATEVER THE INPUT: true; the input reads as it did. -/
def gammToldSpec : ChangeSpec := { name := "gammTold", fn := fun _ => fun
  | [d1, d2, d3, d4] => { results := [.lit (.bool true)], args := [d1, d2, d3, d4] }
  | _ => none }
def gammToldRow : OpenClaim := { program := "ytjfcghliglfapabgreat", sum := "2567638d9b4fc8d9d0cf132bfc88b397e3dafc27a1b96a697fa298dd9139f6a4", func := "astrolabe/astrolabelaw12.GammTold", spec := "gammTold", unfollowed := true, recurses := true, named := ["math/bits.overflowError"], apart := false }
def GammToldSaid : Prop := gammToldRow.holds Tryz.pinned (OpenSpec.ofChange gammToldSpec)

/-- ITS FALSE NEIGHBOUR: 'it returns false'. Refute it at one input. -/
def gammToldWrong : ChangeSpec := { name := "gammTold", fn := fun _ => fun
  | [d1, d2, d3, d4] => { results := [.lit (.bool false)], args := [d1, d2, d3, d4] }
  | _ => none }
def GammToldWrongFalsely : Prop := gammToldRow.holds Tryz.pinned (OpenSpec.ofChange gammToldWrong)

/-- 'astrolabelaw12.GammWhole': WHATEVER THE INPUT: true; the input reads as it did. -/
def gammWholeSpec : ChangeSpec := { name := "gammWhole", fn := fun _ => fun
  | [d1, d2] => { results := [.lit (.bool true)], args := [d1, d2] }
  | _ => none }
def gammWholeRow : OpenClaim := { program := "ytjfcghliglfapabgreat", sum := "2567638d9b4fc8d9d0cf132bfc88b397e3dafc27a1b96a697fa298dd9139f6a4", func := "astrolabe/astrolabelaw12.GammWhole", spec := "gammWhole", unfollowed := true, recurses := true, named := ["math/bits.overflowError"], apart := false }
def GammWholeSaid : Prop := gammWholeRow.holds Tryz.pinned (OpenSpec.ofChange gammWholeSpec)

/-- ITS FALSE NEIGHBOUR: 'it returns false'. Refute it at one input. -/
def gammWholeWrong : ChangeSpec := { name := "gammWhole", fn := fun _ => fun
  | [d1, d2] => { results := [.lit (.bool false)], args := [d1, d2] }
  | _ => none }
def GammWholeWrongFalsely : Prop := gammWholeRow.holds Tryz.pinned (OpenSpec.ofChange gammWholeWrong)

/-- 'astrolabelaw12.GammStep': WHATEVER THE INPUT: true; the input reads as it did. -/
def gammStepSpec : ChangeSpec := { name := "gammStep", fn := fun _ => fun
  | [d1, d2] => { results := [.lit (.bool true)], args := [d1, d2] }
  | _ => none }
def gammStepRow : OpenClaim := { program := "ytjfcghliglfapabgreat", sum := "2567638d9b4fc8d9d0cf132bfc88b397e3dafc27a1b96a697fa298dd9139f6a4", func := "astrolabe/astrolabelaw12.GammStep", spec := "gammStep", unfollowed := true, recurses := true, named := ["math/bits.overflowError"], apart := false }
def GammStepSaid : Prop := gammStepRow.holds Tryz.pinned (OpenSpec.ofChange gammStepSpec)

/-- ITS FALSE NEIGHBOUR: 'it returns false'. Refute it at one input. -/
def gammStepWrong : ChangeSpec := { name := "gammStep", fn := fun _ => fun
  | [d1, d2] => { results := [.lit (.bool false)], args := [d1, d2] }
  | _ => none }
def GammStepWrongFalsely : Prop := gammStepRow.holds Tryz.pinned (OpenSpec.ofChange gammStepWrong)

/-- 'astrolabelaw12.GammHalf': WHATEVER THE INPUT: true; the input reads as it did. -/
def gammHalfSpec : ChangeSpec := { name := "gammHalf", fn := fun _ => fun
  | [d] => { results := [.lit (.bool true)], args := [d] }
  | _ => none }
def gammHalfRow : OpenClaim := { program := "ytjfcghliglfapabgreat", sum := "2567638d9b4fc8d9d0cf132bfc88b397e3dafc27a1b96a697fa298dd9139f6a4", func := "astrolabe/astrolabelaw12.GammHalf", spec := "gammHalf", unfollowed := true, recurses := true, named := ["math/bits.overflowError"], apart := false }
def GammHalfSaid : Prop := gammHalfRow.holds Tryz.pinned (OpenSpec.ofChange gammHalfSpec)

/-- ITS FALSE NEIGHBOUR: 'it returns false'. Refute it at one input. -/
def gammHalfWrong : ChangeSpec := { name := "gammHalf", fn := fun _ => fun
  | [d] => { results := [.lit (.bool false)], args := [d] }
  | _ => none }
def GammHalfWrongFalsely : Prop := gammHalfRow.holds Tryz.pinned (OpenSpec.ofChange gammHalfWrong)

/- THE SECOND FORM. 'bulk': how many values and letters a reading holds, each counted each time it is reached (what is shared counts as often as it is met; a slice's spare places count too). A statement '..UptoSaid' is the law's where the arguments, and the package variables that the reading takes, are together of bulk at most 1048576: NARROWER than '..Said'. Prove '..Said' where nothing that the law and all that it calls make is longer than what came in: it says more and counts as full. Else prove '..UptoSaid'. A law counts once. -/
mutual
def uptoBulk {H : Type} : DataW H → Nat
  | .lit (.string bytes) => bytes.length + 1
  | .lit _ => 1
  | .nil => 1
  | .ptr d => uptoBulk d + 1
  | .slice elems spare => uptoBulkAll elems + uptoBulkAll spare + 1
  | .agg parts => uptoBulkAll parts + 1
  | .iface _ d => uptoBulk d + 1
  | .map entries => uptoBulkEntries entries + 1
  | .held _ => 1
def uptoBulkAll {H : Type} : List (DataW H) → Nat
  | [] => 0
  | d :: r => uptoBulk d + uptoBulkAll r
def uptoBulkEntries {H : Type} : List (Lit × DataW H) → Nat
  | [] => 0
  | x :: r => uptoBulkEntry x + uptoBulkEntries r
def uptoBulkEntry {H : Type} : Lit × DataW H → Nat
  | (.string bytes, d) => bytes.length + uptoBulk d + 1
  | (_, d) => uptoBulk d + 1
 end
def uptoSmall : (H : Type) → List (DataW H) → Bool := fun _ ds => decide (uptoBulkAll ds ≤ 1048576)
def OpenSpec.upto (s : _root_.Go.ChangeSpec) : _root_.Go.OpenSpec := { _root_.Go.OpenSpec.ofChange s with cond := some uptoSmall }

/-- 'astrolabelaw10.TrigDouble', WHERE WHAT IT READS IS OF BULK AT MOST 1048576: true; the input reads as it did. -/
def trigDoubleUptoRow : OpenClaim := { program := "ytjfcghliglfapabgreat", sum := "2567638d9b4fc8d9d0cf132bfc88b397e3dafc27a1b96a697fa298dd9139f6a4", func := "astrolabe/astrolabelaw10.TrigDouble", spec := "trigDouble", unfollowed := true, recurses := true, named := ["math/bits.overflowError"], apart := false, narrowed := true }
def TrigDoubleUptoSaid : Prop := trigDoubleUptoRow.holds Tryz.pinned (OpenSpec.upto trigDoubleSpec)

/-- 'astrolabelaw10.TrigCircle', WHERE WHAT IT READS IS OF BULK AT MOST 1048576: true; the input reads as it did. -/
def trigCircleUptoRow : OpenClaim := { program := "ytjfcghliglfapabgreat", sum := "2567638d9b4fc8d9d0cf132bfc88b397e3dafc27a1b96a697fa298dd9139f6a4", func := "astrolabe/astrolabelaw10.TrigCircle", spec := "trigCircle", unfollowed := true, recurses := true, named := ["math/bits.overflowError"], apart := false, narrowed := true }
def TrigCircleUptoSaid : Prop := trigCircleUptoRow.holds Tryz.pinned (OpenSpec.upto trigCircleSpec)

/-- 'astrolabelaw10.TrigAtan', WHERE WHAT IT READS IS OF BULK AT MOST 1048576: true; the input reads as it did. -/
def trigAtanUptoRow : OpenClaim := { program := "ytjfcghliglfapabgreat", sum := "2567638d9b4fc8d9d0cf132bfc88b397e3dafc27a1b96a697fa298dd9139f6a4", func := "astrolabe/astrolabelaw10.TrigAtan", spec := "trigAtan", unfollowed := true, recurses := true, named := ["math/bits.overflowError"], apart := false, narrowed := true }
def TrigAtanUptoSaid : Prop := trigAtanUptoRow.holds Tryz.pinned (OpenSpec.upto trigAtanSpec)

/-- 'astrolabelaw10.TrigBack', WHERE WHAT IT READS IS OF BULK AT MOST 1048576: true; the input reads as it did. -/
def trigBackUptoRow : OpenClaim := { program := "ytjfcghliglfapabgreat", sum := "2567638d9b4fc8d9d0cf132bfc88b397e3dafc27a1b96a697fa298dd9139f6a4", func := "astrolabe/astrolabelaw10.TrigBack", spec := "trigBack", unfollowed := true, recurses := true, named := ["math/bits.overflowError"], apart := false, narrowed := true }
def TrigBackUptoSaid : Prop := trigBackUptoRow.holds Tryz.pinned (OpenSpec.upto trigBackSpec)

/-- 'astrolabelaw11.ErffRises', WHERE WHAT IT READS IS OF BULK AT MOST 1048576: true; the input reads as it did. -/
def erffRisesUptoRow : OpenClaim := { program := "ytjfcghliglfapabgreat", sum := "2567638d9b4fc8d9d0cf132bfc88b397e3dafc27a1b96a697fa298dd9139f6a4", func := "astrolabe/astrolabelaw11.ErffRises", spec := "erffRises", unfollowed := true, recurses := true, named := ["math/bits.overflowError"], apart := false, narrowed := true }
def ErffRisesUptoSaid : Prop := erffRisesUptoRow.holds Tryz.pinned (OpenSpec.upto erffRisesSpec)

/-- 'astrolabelaw11.ErffTold', WHERE WHAT IT READS IS OF BULK AT MOST 1048576: true; the input reads as it did. -/
def erffToldUptoRow : OpenClaim := { program := "ytjfcghliglfapabgreat", sum := "2567638d9b4fc8d9d0cf132bfc88b397e3dafc27a1b96a697fa298dd9139f6a4", func := "astrolabe/astrolabelaw11.ErffTold", spec := "erffTold", unfollowed := true, recurses := true, named := ["math/bits.overflowError"], apart := false, narrowed := true }
def ErffToldUptoSaid : Prop := erffToldUptoRow.holds Tryz.pinned (OpenSpec.upto erffToldSpec)

/-- 'astrolabelaw11.ErffOne', WHERE WHAT IT READS IS OF BULK AT MOST 1048576: true; the input reads as it did. -/
def erffOneUptoRow : OpenClaim := { program := "ytjfcghliglfapabgreat", sum := "2567638d9b4fc8d9d0cf132bfc88b397e3dafc27a1b96a697fa298dd9139f6a4", func := "astrolabe/astrolabelaw11.ErffOne", spec := "erffOne", unfollowed := true, recurses := true, named := ["math/bits.overflowError"], apart := false, narrowed := true }
def ErffOneUptoSaid : Prop := erffOneUptoRow.holds Tryz.pinned (OpenSpec.upto erffOneSpec)

/-- 'astrolabelaw12.GammLift', WHERE WHAT IT READS IS OF BULK AT MOST 1048576: true; the input reads as it did. -/
def gammLiftUptoRow : OpenClaim := { program := "ytjfcghliglfapabgreat", sum := "2567638d9b4fc8d9d0cf132bfc88b397e3dafc27a1b96a697fa298dd9139f6a4", func := "astrolabe/astrolabelaw12.GammLift", spec := "gammLift", unfollowed := true, recurses := true, named := ["math/bits.overflowError"], apart := false, narrowed := true }
def GammLiftUptoSaid : Prop := gammLiftUptoRow.holds Tryz.pinned (OpenSpec.upto gammLiftSpec)

/-- 'astrolabelaw12.GammTold', WHERE WHAT IT READS IS OF BULK AT MOST 1048576: true; the input reads as it did. -/
def gammToldUptoRow : OpenClaim := { program := "ytjfcghliglfapabgreat", sum := "2567638d9b4fc8d9d0cf132bfc88b397e3dafc27a1b96a697fa298dd9139f6a4", func := "astrolabe/astrolabelaw12.GammTold", spec := "gammTold", unfollowed := true, recurses := true, named := ["math/bits.overflowError"], apart := false, narrowed := true }
def GammToldUptoSaid : Prop := gammToldUptoRow.holds Tryz.pinned (OpenSpec.upto gammToldSpec)

/-- 'astrolabelaw12.GammWhole', WHERE WHAT IT READS IS OF BULK AT MOST 1048576: true; the input reads as it did. -/
def gammWholeUptoRow : OpenClaim := { program := "ytjfcghliglfapabgreat", sum := "2567638d9b4fc8d9d0cf132bfc88b397e3dafc27a1b96a697fa298dd9139f6a4", func := "astrolabe/astrolabelaw12.GammWhole", spec := "gammWhole", unfollowed := true, recurses := true, named := ["math/bits.overflowError"], apart := false, narrowed := true }
def GammWholeUptoSaid : Prop := gammWholeUptoRow.holds Tryz.pinned (OpenSpec.upto gammWholeSpec)

/-- 'astrolabelaw12.GammStep', WHERE WHAT IT READS IS OF BULK AT MOST 1048576: true; the input reads as it did. -/
def gammStepUptoRow : OpenClaim := { program := "ytjfcghliglfapabgreat", sum := "2567638d9b4fc8d9d0cf132bfc88b397e3dafc27a1b96a697fa298dd9139f6a4", func := "astrolabe/astrolabelaw12.GammStep", spec := "gammStep", unfollowed := true, recurses := true, named := ["math/bits.overflowError"], apart := false, narrowed := true }
def GammStepUptoSaid : Prop := gammStepUptoRow.holds Tryz.pinned (OpenSpec.upto gammStepSpec)

/-- 'astrolabelaw12.GammHalf', WHERE WHAT IT READS IS OF BULK AT MOST 1048576: true; the input reads as it did. -/
def gammHalfUptoRow : OpenClaim := { program := "ytjfcghliglfapabgreat", sum := "2567638d9b4fc8d9d0cf132bfc88b397e3dafc27a1b96a697fa298dd9139f6a4", func := "astrolabe/astrolabelaw12.GammHalf", spec := "gammHalf", unfollowed := true, recurses := true, named := ["math/bits.overflowError"], apart := false, narrowed := true }
def GammHalfUptoSaid : Prop := gammHalfUptoRow.holds Tryz.pinned (OpenSpec.upto gammHalfSpec)

end Rows
end Go.Proofs.YtjfcghliglfapabGreat
