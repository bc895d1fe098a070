/-
  No cell of these rows narrows 'for every input' (looked for: loops, veiled, ifaces, maps, wideKeys, modest, calm, conditions, laid).
  DERIVED. THE GIVEN ROWS OF THIS SEAT. 5 by the template 'for every input the law returns true; each argument reads behind the call as it read before'; 0 by the template 'total and deterministic' (their statements: YtjffljhmjdljeaaGreatTotals.lean).
  GIVEN WITH THE SEED: the statements are not yours to turn. If you find one false, say at which input.
  Laid BY PROGRAM, IN A SANDBOX (cutbox-rows.mjs): the forced cells as the released guide's own fill.sh prints them over the translation 3ec26393380386d7… (all of the seat's roots in one cut). By AI agents, Wed Nov 11 2026. No macro, syntax, notation, axiom, sorry.
-/
import Derived.Test.YtjffljhmjdljeaaGreatChecked
import GoSem.Claim
import GoSem.ClaimJoined
import GoSem.ClaimMapViews
import Derived.JoinedTies
import Derived.KernelRfl
namespace Go.Proofs.YtjffljhmjdljeaaGreat
/- THE CELL 'sum', in the pinned program and in every row, IS THE sha256 OF THE DUMP (.gsa) THAT YtjffljhmjdljeaaGreatProg.lean LOADS. Nothing in Lean hashes anything: it is a label: what it is worth is what the hold of that sum in a sandbox is worth. -/
noncomputable def Tryz.pinned : Pinned := { name := "ytjffljhmjdljeaagreat", sum := "3ec26393380386d7a657c569102fd43481f6b0f3321f3324dd3c54c0959f9da9", checked := Tryz.checked }
namespace Rows
def none {H : Type} : Left H := { results := [], args := [] }

/-- 'astrolabelaw10.TrigBack': WHATEVER THE INPUT: true; the input reads as it did. -/
def trigBackSpec : ChangeSpec := { name := "trigBack", fn := fun _ => fun
  | [d1, d2] => { results := [.lit (.bool true)], args := [d1, d2] }
  | _ => none }
def trigBackRow : OpenClaim := { program := "ytjffljhmjdljeaagreat", sum := "3ec26393380386d7a657c569102fd43481f6b0f3321f3324dd3c54c0959f9da9", func := "astrolabe/astrolabelaw10.TrigBack", spec := "trigBack", unfollowed := true, recurses := true, named := ["math/bits.overflowError"], apart := false }
def TrigBackSaid : Prop := trigBackRow.holds Tryz.pinned (OpenSpec.ofChange trigBackSpec)

/-- ITS FALSE NEIGHBOUR: 'it returns false'. Refute it at one input. -/
def trigBackWrong : ChangeSpec := { name := "trigBack", fn := fun _ => fun
  | [d1, d2] => { results := [.lit (.bool false)], args := [d1, d2] }
  | _ => none }
def TrigBackWrongFalsely : Prop := trigBackRow.holds Tryz.pinned (OpenSpec.ofChange trigBackWrong)

/-- 'astrolabelaw11.ErffRises': WHATEVER THE INPUT: true; the input reads as it did. -/
def erffRisesSpec : ChangeSpec := { name := "erffRises", fn := fun _ => fun
  | [d1, d2, d3] => { results := [.lit (.bool true)], args := [d1, d2, d3] }
  | _ => none }
def erffRisesRow : OpenClaim := { program := "ytjffljhmjdljeaagreat", sum := "3ec26393380386d7a657c569102fd43481f6b0f3321f3324dd3c54c0959f9da9", func := "astrolabe/astrolabelaw11.ErffRises", spec := "erffRises", unfollowed := true, recurses := true, named := ["math/bits.overflowError"], apart := false }
def ErffRisesSaid : Prop := erffRisesRow.holds Tryz.pinned (OpenSpec.ofChange erffRisesSpec)

/-- ITS FALSE NEIGHBOUR: 'it returns false'. Refute it at one input. -/
def erffRisesWrong : ChangeSpec := { name := "erffRises", fn := fun _ => fun
  | [d1, d2, d3] => { results := [.lit (.bool false)], args := [d1, d2, d3] }
  | _ => none }
def ErffRisesWrongFalsely : Prop := erffRisesRow.holds Tryz.pinned (OpenSpec.ofChange erffRisesWrong)

/-- 'astrolabelaw11.ErffTold': WHATEVER THE INPUT: true; the input reads as it did. -/
def erffToldSpec : ChangeSpec := { name := "erffTold", fn := fun _ => fun
  | [d1, d2, d3] => { results := [.lit (.bool true)], args := [d1, d2, d3] }
  | _ => none }
def erffToldRow : OpenClaim := { program := "ytjffljhmjdljeaagreat", sum := "3ec26393380386d7a657c569102fd43481f6b0f3321f3324dd3c54c0959f9da9", func := "astrolabe/astrolabelaw11.ErffTold", spec := "erffTold", unfollowed := true, recurses := true, named := ["math/bits.overflowError"], apart := false }
def ErffToldSaid : Prop := erffToldRow.holds Tryz.pinned (OpenSpec.ofChange erffToldSpec)

/-- ITS FALSE NEIGHBOUR: 'it returns false'. Refute it at one input. -/
def erffToldWrong : ChangeSpec := { name := "erffTold", fn := fun _ => fun
  | [d1, d2, d3] => { results := [.lit (.bool false)], args := [d1, d2, d3] }
  | _ => none }
def ErffToldWrongFalsely : Prop := erffToldRow.holds Tryz.pinned (OpenSpec.ofChange erffToldWrong)

/-- 'astrolabelaw11.ErffOne': WHATEVER THE INPUT: true; the input reads as it did. -/
def erffOneSpec : ChangeSpec := { name := "erffOne", fn := fun _ => fun
  | [d1, d2] => { results := [.lit (.bool true)], args := [d1, d2] }
  | _ => none }
def erffOneRow : OpenClaim := { program := "ytjffljhmjdljeaagreat", sum := "3ec26393380386d7a657c569102fd43481f6b0f3321f3324dd3c54c0959f9da9", func := "astrolabe/astrolabelaw11.ErffOne", spec := "erffOne", unfollowed := true, recurses := true, named := ["math/bits.overflowError"], apart := false }
def ErffOneSaid : Prop := erffOneRow.holds Tryz.pinned (OpenSpec.ofChange erffOneSpec)

/-- ITS FALSE NEIGHBOUR: 'it returns false'. Refute it at one input. -/
def erffOneWrong : ChangeSpec := { name := "erffOne", fn := fun _ => fun
  | [d1, d2] => { results := [.lit (.bool false)], args := [d1, d2] }
  | _ => none }
def ErffOneWrongFalsely : Prop := erffOneRow.holds Tryz.pinned (OpenSpec.ofChange erffOneWrong)

/-- 'astrolabelaw12.GammTold': WHATEVER THE INPUT: true; the input reads as it did. -/
def gammToldSpec : ChangeSpec := { name := "gammTold", fn := fun _ => fun
  | [d1, d2, d3, d4] => { results := [.lit (.bool true)], args := [d1, d2, d3, d4] }
  | _ => none }
def gammToldRow : OpenClaim := { program := "ytjffljhmjdljeaagreat", sum := "3ec26393380386d7a657c569102fd43481f6b0f3321f3324dd3c54c0959f9da9", func := "astrolabe/astrolabelaw12.GammTold", spec := "gammTold", unfollowed := true, recurses := true, named := ["math/bits.overflowError"], apart := false }
def GammToldSaid : Prop := gammToldRow.holds Tryz.pinned (OpenSpec.ofChange gammToldSpec)

/-- ITS FALSE NEIGHBOUR: 'it returns false'. Refute it at one input. -/
def gammToldWrong : ChangeSpec := { name := "gammTold", fn := fun _ => fun
  | [d1, d2, d3, d4] => { results := [.lit (.bool false)], args := [d1, d2, d3, d4] }
  | _ => none }
def GammToldWrongFalsely : Prop := gammToldRow.holds Tryz.pinned (OpenSpec.ofChange gammToldWrong)

/- THE SECOND FORM. 'bulk': how many values and letters a reading holds, each counted each time it is reached (what is shared counts as often as it is met; a slice's spare places count too). A statement '..UptoSaid' is the law's where the arguments, and the package variables that the reading takes, are together of bulk at most 1048576: NARROWER than '..Said'. Prove '..Said' where nothing that the law and all that it calls make is longer than what came in: it says more and counts as full. Else prove '..UptoSaid'. A law counts once. -/
mutual
def uptoBulk {H : Type} : DataW H → Nat
  | .lit (.string bytes) => bytes.length + 1
  | .lit _ => 1
  | .nil => 1
  | .ptr d => uptoBulk d + 1
  | .slice elems spare => uptoBulkAll elems + uptoBulkAll spare + 1
  | .agg parts => uptoBulkAll parts + 1
  | .iface _ d => uptoBulk d + 1
  | .map entries => uptoBulkEntries entries + 1
  | .held _ => 1
def uptoBulkAll {H : Type} : List (DataW H) → Nat
  | [] => 0
  | d :: r => uptoBulk d + uptoBulkAll r
def uptoBulkEntries {H : Type} : List (Lit × DataW H) → Nat
  | [] => 0
  | x :: r => uptoBulkEntry x + uptoBulkEntries r
def uptoBulkEntry {H : Type} : Lit × DataW H → Nat
  | (.string bytes, d) => bytes.length + uptoBulk d + 1
  | (_, d) => uptoBulk d + 1
 end
def uptoSmall : (H : Type) → List (DataW H) → Bool := fun _ ds => decide (uptoBulkAll ds ≤ 1048576)
def OpenSpec.upto (s : _root_.Go.ChangeSpec) : _root_.Go.OpenSpec := { _root_.Go.OpenSpec.ofChange s with cond := some uptoSmall }

/-- 'astrolabelaw10.TrigBack', WHERE WHAT IT READS IS OF BULK AT MOST 1048576: true; the input reads as it did. -/
def trigBackUptoRow : OpenClaim := { program := "ytjffljhmjdljeaagreat", sum := "3ec26393380386d7a657c569102fd43481f6b0f3321f3324dd3c54c0959f9da9", func := "astrolabe/astrolabelaw10.TrigBack", spec := "trigBack", unfollowed := true, recurses := true, named := ["math/bits.overflowError"], apart := false, narrowed := true }
def TrigBackUptoSaid : Prop := trigBackUptoRow.holds Tryz.pinned (OpenSpec.upto trigBackSpec)

/-- 'astrolabelaw11.ErffRises', WHERE WHAT IT READS IS OF BULK AT MOST 1048576: true; the input reads as it did. -/
def erffRisesUptoRow : OpenClaim := { program := "ytjffljhmjdljeaagreat", sum := "3ec26393380386d7a657c569102fd43481f6b0f3321f3324dd3c54c0959f9da9", func := "astrolabe/astrolabelaw11.ErffRises", spec := "erffRises", unfollowed := true, recurses := true, named := ["math/bits.overflowError"], apart := false, narrowed := true }
def ErffRisesUptoSaid : Prop := erffRisesUptoRow.holds Tryz.pinned (OpenSpec.upto erffRisesSpec)

/-- 'astrolabelaw11.ErffTold', WHERE WHAT IT READS IS OF BULK AT MOST 1048576: true; the input reads as it did. -/
def erffToldUptoRow : OpenClaim := { program := "ytjffljhmjdljeaagreat", sum := "3ec26393380386d7a657c569102fd43481f6b0f3321f3324dd3c54c0959f9da9", func := "astrolabe/astrolabelaw11.ErffTold", spec := "erffTold", unfollowed := true, recurses := true, named := ["math/bits.overflowError"], apart := false, narrowed := true }
def ErffToldUptoSaid : Prop := erffToldUptoRow.holds Tryz.pinned (OpenSpec.upto erffToldSpec)

/-- 'astrolabelaw11.ErffOne', WHERE WHAT IT READS IS OF BULK AT MOST 1048576: true; the input reads as it did. -/
def erffOneUptoRow : OpenClaim := { program := "ytjffljhmjdljeaagreat", sum := "3ec26393380386d7a657c569102fd43481f6b0f3321f3324dd3c54c0959f9da9", func := "astrolabe/astrolabelaw11.ErffOne", spec := "erffOne", unfollowed := true, recurses := true, named := ["math/bits.overflowError"], apart := false, narrowed := true }
def ErffOneUptoSaid : Prop := erffOneUptoRow.holds Tryz.pinned (OpenSpec.upto erffOneSpec)

/-- 'astrolabelaw12.GammTold', WHERE WHAT IT READS IS OF BULK AT MOST 1048576: true; the input reads as it did. -/
def gammToldUptoRow : OpenClaim := { program := "ytjffljhmjdljeaagreat", sum := "3ec26393380386d7a657c569102fd43481f6b0f3321f3324dd3c54c0959f9da9", func := "astrolabe/astrolabelaw12.GammTold", spec := "gammTold", unfollowed := true, recurses := true, named := ["math/bits.overflowError"], apart := false, narrowed := true }
def GammToldUptoSaid : Prop := gammToldUptoRow.holds Tryz.pinned (OpenSpec.upto gammToldSpec)

end Rows
end Go.Proofs.YtjffljhmjdljeaaGreat
