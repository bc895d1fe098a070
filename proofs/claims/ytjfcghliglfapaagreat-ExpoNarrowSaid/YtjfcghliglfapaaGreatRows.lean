/-
  No cell of these rows narrows 'for every input' (looked for: loops, veiled, ifaces, maps, wideKeys, modest, calm, conditions, laid).
  DERIVED. THE GIVEN ROWS OF THIS SEAT. 12 by the template 'for every input the law returns true; each argument reads behind the call as it read before'; 0 by the template 'total and deterministic' (their statements: YtjfcghliglfapaaGreatTotals.lean).
  GIVEN WITH THE SEED: the statements are not yours to turn. If you find one false, say at which input.
  Laid BY PROGRAM, IN A SANDBOX (cutbox-rows.mjs): the forced cells as the released guide's own fill.sh prints them over the translation e8cdf689734784a1… (all of the seat's roots in one cut). By AI agents, Wed Nov 11 2026. No macro, syntax, notation, axiom, sorry.
-/
import Derived.Test.YtjfcghliglfapaaGreatChecked
import GoSem.Claim
import GoSem.ClaimJoined
import GoSem.ClaimMapViews
import Derived.JoinedTies
import Derived.KernelRfl
namespace Go.Proofs.YtjfcghliglfapaaGreat
/- THE CELL 'sum', in the pinned program and in every row, IS THE sha256 OF THE DUMP (.gsa) THAT YtjfcghliglfapaaGreatProg.lean LOADS. Nothing in Lean hashes anything: it is a label: what it is worth is what the hold of that sum in a sandbox is worth. -/
noncomputable def Tryz.pinned : Pinned := { name := "ytjfcghliglfapaagreat", sum := "e8cdf689734784a17d9aa71c25faeb239d4f1b3149b48beba4ff7d05a7dde71a", checked := Tryz.checked }
namespace Rows
def none {H : Type} : Left H := { results := [], args := [] }

/-- 'astrolabelaw09.ExpoExp': WHATEVER THE INPUT: true; the input reads as it did. -/
def expoExpSpec : ChangeSpec := { name := "expoExp", fn := fun _ => fun
  | [d1, d2] => { results := [.lit (.bool true)], args := [d1, d2] }
  | _ => none }
def expoExpRow : OpenClaim := { program := "ytjfcghliglfapaagreat", sum := "e8cdf689734784a17d9aa71c25faeb239d4f1b3149b48beba4ff7d05a7dde71a", func := "astrolabe/astrolabelaw09.ExpoExp", spec := "expoExp", unfollowed := true, recurses := true, named := ["math/bits.overflowError"], apart := false }
def ExpoExpSaid : Prop := expoExpRow.holds Tryz.pinned (OpenSpec.ofChange expoExpSpec)

/-- ITS FALSE NEIGHBOUR: 'it returns false'. Refute it at one input. -/
def expoExpWrong : ChangeSpec := { name := "expoExp", fn := fun _ => fun
  | [d1, d2] => { results := [.lit (.bool false)], args := [d1, d2] }
  | _ => none }
def ExpoExpWrongFalsely : Prop := expoExpRow.holds Tryz.pinned (OpenSpec.ofChange expoExpWrong)

/-- 'astrolabelaw09.ExpoLn': WHATEVER THE INPUT: true; the input reads as it did. -/
def expoLnSpec : ChangeSpec := { name := "expoLn", fn := fun _ => fun
  | [d1, d2] => { results := [.lit (.bool true)], args := [d1, d2] }
  | _ => none }
def expoLnRow : OpenClaim := { program := "ytjfcghliglfapaagreat", sum := "e8cdf689734784a17d9aa71c25faeb239d4f1b3149b48beba4ff7d05a7dde71a", func := "astrolabe/astrolabelaw09.ExpoLn", spec := "expoLn", unfollowed := true, recurses := true, named := ["math/bits.overflowError"], apart := false }
def ExpoLnSaid : Prop := expoLnRow.holds Tryz.pinned (OpenSpec.ofChange expoLnSpec)

/-- ITS FALSE NEIGHBOUR: 'it returns false'. Refute it at one input. -/
def expoLnWrong : ChangeSpec := { name := "expoLn", fn := fun _ => fun
  | [d1, d2] => { results := [.lit (.bool false)], args := [d1, d2] }
  | _ => none }
def ExpoLnWrongFalsely : Prop := expoLnRow.holds Tryz.pinned (OpenSpec.ofChange expoLnWrong)

/-- 'astrolabelaw09.ExpoAdds': WHATEVER THE INPUT: true; the input reads as it did. -/
def expoAddsSpec : ChangeSpec := { name := "expoAdds", fn := fun _ => fun
  | [d1, d2, d3] => { results := [.lit (.bool true)], args := [d1, d2, d3] }
  | _ => none }
def expoAddsRow : OpenClaim := { program := "ytjfcghliglfapaagreat", sum := "e8cdf689734784a17d9aa71c25faeb239d4f1b3149b48beba4ff7d05a7dde71a", func := "astrolabe/astrolabelaw09.ExpoAdds", spec := "expoAdds", unfollowed := true, recurses := true, named := ["math/bits.overflowError"], apart := false }
def ExpoAddsSaid : Prop := expoAddsRow.holds Tryz.pinned (OpenSpec.ofChange expoAddsSpec)

/-- ITS FALSE NEIGHBOUR: 'it returns false'. Refute it at one input. -/
def expoAddsWrong : ChangeSpec := { name := "expoAdds", fn := fun _ => fun
  | [d1, d2, d3] => { results := [.lit (.bool false)], args := [d1, d2, d3] }
  | _ => none }
def ExpoAddsWrongFalsely : Prop := expoAddsRow.holds Tryz.pinned (OpenSpec.ofChange expoAddsWrong)

/-- 'astrolabelaw09.ExpoTwos': WHATEVER THE INPUT: true; the input reads as it did. -/
def expoTwosSpec : ChangeSpec := { name := "expoTwos", fn := fun _ => fun
  | [d1, d2, d3] => { results := [.lit (.bool true)], args := [d1, d2, d3] }
  | _ => none }
def expoTwosRow : OpenClaim := { program := "ytjfcghliglfapaagreat", sum := "e8cdf689734784a17d9aa71c25faeb239d4f1b3149b48beba4ff7d05a7dde71a", func := "astrolabe/astrolabelaw09.ExpoTwos", spec := "expoTwos", unfollowed := true, recurses := true, named := ["math/bits.overflowError"], apart := false }
def ExpoTwosSaid : Prop := expoTwosRow.holds Tryz.pinned (OpenSpec.ofChange expoTwosSpec)

/-- ITS FALSE NEIGHBOUR: 'it returns false'. Refute it at one input. -/
def expoTwosWrong : ChangeSpec := { name := "expoTwos", fn := fun _ => fun
  | [d1, d2, d3] => { results := [.lit (.bool false)], args := [d1, d2, d3] }
  | _ => none }
def ExpoTwosWrongFalsely : Prop := expoTwosRow.holds Tryz.pinned (OpenSpec.ofChange expoTwosWrong)

/-- 'astrolabelaw09.ExpoRises': WHATEVER THE INPUT: true; the input reads as it did. -/
def expoRisesSpec : ChangeSpec := { name := "expoRises", fn := fun _ => fun
  | [d1, d2, d3] => { results := [.lit (.bool true)], args := [d1, d2, d3] }
  | _ => none }
def expoRisesRow : OpenClaim := { program := "ytjfcghliglfapaagreat", sum := "e8cdf689734784a17d9aa71c25faeb239d4f1b3149b48beba4ff7d05a7dde71a", func := "astrolabe/astrolabelaw09.ExpoRises", spec := "expoRises", unfollowed := true, recurses := true, named := ["math/bits.overflowError"], apart := false }
def ExpoRisesSaid : Prop := expoRisesRow.holds Tryz.pinned (OpenSpec.ofChange expoRisesSpec)

/-- ITS FALSE NEIGHBOUR: 'it returns false'. Refute it at one input. -/
def expoRisesWrong : ChangeSpec := { name := "expoRises", fn := fun _ => fun
  | [d1, d2, d3] => { results := [.lit (.bool false)], args := [d1, d2, d3] }
  | _ => none }
def ExpoRisesWrongFalsely : Prop := expoRisesRow.holds Tryz.pinned (OpenSpec.ofChange expoRisesWrong)

/-- 'astrolabelaw09.ExpoOf': WHATEVER THE INPUT: true; the input reads as it did. -/
def expoOfSpec : ChangeSpec := { name := "expoOf", fn := fun _ => fun
  | [d1, d2, d3] => { results := [.lit (.bool true)], args := [d1, d2, d3] }
  | _ => none }
def expoOfRow : OpenClaim := { program := "ytjfcghliglfapaagreat", sum := "e8cdf689734784a17d9aa71c25faeb239d4f1b3149b48beba4ff7d05a7dde71a", func := "astrolabe/astrolabelaw09.ExpoOf", spec := "expoOf", unfollowed := true, recurses := true, named := ["math/bits.overflowError"], apart := false }
def ExpoOfSaid : Prop := expoOfRow.holds Tryz.pinned (OpenSpec.ofChange expoOfSpec)

/-- ITS FALSE NEIGHBOUR: 'it returns false'. Refute it at one input. -/
def expoOfWrong : ChangeSpec := { name := "expoOf", fn := fun _ => fun
  | [d1, d2, d3] => { results := [.lit (.bool false)], args := [d1, d2, d3] }
  | _ => none }
def ExpoOfWrongFalsely : Prop := expoOfRow.holds Tryz.pinned (OpenSpec.ofChange expoOfWrong)

/-- 'astrolabelaw09.ExpoNarrow': WHATEVER THE INPUT: true; the input reads as it did. -/
def expoNarrowSpec : ChangeSpec := { name := "expoNarrow", fn := fun _ => fun
  | [d1, d2, d3] => { results := [.lit (.bool true)], args := [d1, d2, d3] }
  | _ => none }
def expoNarrowRow : OpenClaim := { program := "ytjfcghliglfapaagreat", sum := "e8cdf689734784a17d9aa71c25faeb239d4f1b3149b48beba4ff7d05a7dde71a", func := "astrolabe/astrolabelaw09.ExpoNarrow", spec := "expoNarrow", unfollowed := true, recurses := true, named := ["math/bits.overflowError"], apart := false }
def ExpoNarrowSaid : Prop := expoNarrowRow.holds Tryz.pinned (OpenSpec.ofChange expoNarrowSpec)

/-- ITS FALSE NEIGHBOUR: 'it returns false'. Refute it at one input. -/
def expoNarrowWrong : ChangeSpec := { name := "expoNarrow", fn := fun _ => fun
  | [d1, d2, d3] => { results := [.lit (.bool false)], args := [d1, d2, d3] }
  | _ => none }
def ExpoNarrowWrongFalsely : Prop := expoNarrowRow.holds Tryz.pinned (OpenSpec.ofChange expoNarrowWrong)

/-- 'astrolabelaw09.ExpoBack': WHATEVER THE INPUT: true; the input reads as it did. -/
def expoBackSpec : ChangeSpec := { name := "expoBack", fn := fun _ => fun
  | [d1, d2, d3] => { results := [.lit (.bool true)], args := [d1, d2, d3] }
  | _ => none }
def expoBackRow : OpenClaim := { program := "ytjfcghliglfapaagreat", sum := "e8cdf689734784a17d9aa71c25faeb239d4f1b3149b48beba4ff7d05a7dde71a", func := "astrolabe/astrolabelaw09.ExpoBack", spec := "expoBack", unfollowed := true, recurses := true, named := ["math/bits.overflowError"], apart := false }
def ExpoBackSaid : Prop := expoBackRow.holds Tryz.pinned (OpenSpec.ofChange expoBackSpec)

/-- ITS FALSE NEIGHBOUR: 'it returns false'. Refute it at one input. -/
def expoBackWrong : ChangeSpec := { name := "expoBack", fn := fun _ => fun
  | [d1, d2, d3] => { results := [.lit (.bool false)], args := [d1, d2, d3] }
  | _ => none }
def ExpoBackWrongFalsely : Prop := expoBackRow.holds Tryz.pinned (OpenSpec.ofChange expoBackWrong)

/-- 'astrolabelaw10.TrigTurns': WHATEVER THE INPUT: true; the input reads as it did. -/
def trigTurnsSpec : ChangeSpec := { name := "trigTurns", fn := fun _ => fun
  | [d1, d2] => { results := [.lit (.bool true)], args := [d1, d2] }
  | _ => none }
def trigTurnsRow : OpenClaim := { program := "ytjfcghliglfapaagreat", sum := "e8cdf689734784a17d9aa71c25faeb239d4f1b3149b48beba4ff7d05a7dde71a", func := "astrolabe/astrolabelaw10.TrigTurns", spec := "trigTurns", unfollowed := true, recurses := true, named := ["math/bits.overflowError"], apart := false }
def TrigTurnsSaid : Prop := trigTurnsRow.holds Tryz.pinned (OpenSpec.ofChange trigTurnsSpec)

/-- ITS FALSE NEIGHBOUR: 'it returns false'. Refute it at one input. -/
def trigTurnsWrong : ChangeSpec := { name := "trigTurns", fn := fun _ => fun
  | [d1, d2] => { results := [.lit (.bool false)], args := [d1, d2] }
  | _ => none }
def TrigTurnsWrongFalsely : Prop := trigTurnsRow.holds Tryz.pinned (OpenSpec.ofChange trigTurnsWrong)

/-- 'astrolabelaw10.TrigSines': WHATEVER THE INPUT: true; the input reads as it did. -/
def trigSinesSpec : ChangeSpec := { name := "trigSines", fn := fun _ => fun
  | [d1, d2] => { results := [.lit (.bool true)], args := [d1, d2] }
  | _ => none }
def trigSinesRow : OpenClaim := { program := "ytjfcghliglfapaagreat", sum := "e8cdf689734784a17d9aa71c25faeb239d4f1b3149b48beba4ff7d05a7dde71a", func := "astrolabe/astrolabelaw10.TrigSines", spec := "trigSines", unfollowed := true, recurses := true, named := ["math/bits.overflowError"], apart := false }
def TrigSinesSaid : Prop := trigSinesRow.holds Tryz.pinned (OpenSpec.ofChange trigSinesSpec)

/-- ITS FALSE NEIGHBOUR: 'it returns false'. Refute it at one input. -/
def trigSinesWrong : ChangeSpec := { name := "trigSines", fn := fun _ => fun
  | [d1, d2] => { results := [.lit (.bool false)], args := [d1, d2] }
  | _ => none }
def TrigSinesWrongFalsely : Prop := trigSinesRow.holds Tryz.pinned (OpenSpec.ofChange trigSinesWrong)

/-- 'astrolabelaw10.TrigRest': WHATEVER THE INPUT: true; the input reads as it did. -/
def trigRestSpec : ChangeSpec := { name := "trigRest", fn := fun _ => fun
  | [d1, d2] => { results := [.lit (.bool true)], args := [d1, d2] }
  | _ => none }
def trigRestRow : OpenClaim := { program := "ytjfcghliglfapaagreat", sum := "e8cdf689734784a17d9aa71c25faeb239d4f1b3149b48beba4ff7d05a7dde71a", func := "astrolabe/astrolabelaw10.TrigRest", spec := "trigRest", unfollowed := true, recurses := true, named := ["math/bits.overflowError"], apart := false }
def TrigRestSaid : Prop := trigRestRow.holds Tryz.pinned (OpenSpec.ofChange trigRestSpec)

/-- ITS FALSE NEIGHBOUR: 'it returns false'. Refute it at one input. -/
def trigRestWrong : ChangeSpec := { name := "trigRest", fn := fun _ => fun
  | [d1, d2] => { results := [.lit (.bool false)], args := [d1, d2] }
  | _ => none }
def TrigRestWrongFalsely : Prop := trigRestRow.holds Tryz.pinned (OpenSpec.ofChange trigRestWrong)

/-- 'astrolabelaw10.TrigAdds': WHATEVER THE INPUT: true; the input reads as it did. -/
def trigAddsSpec : ChangeSpec := { name := "trigAdds", fn := fun _ => fun
  | [d1, d2, d3] => { results := [.lit (.bool true)], args := [d1, d2, d3] }
  | _ => none }
def trigAddsRow : OpenClaim := { program := "ytjfcghliglfapaagreat", sum := "e8cdf689734784a17d9aa71c25faeb239d4f1b3149b48beba4ff7d05a7dde71a", func := "astrolabe/astrolabelaw10.TrigAdds", spec := "trigAdds", unfollowed := true, recurses := true, named := ["math/bits.overflowError"], apart := false }
def TrigAddsSaid : Prop := trigAddsRow.holds Tryz.pinned (OpenSpec.ofChange trigAddsSpec)

/-- ITS FALSE NEIGHBOUR: 'it returns false'. Refute it at one input. -/
def trigAddsWrong : ChangeSpec := { name := "trigAdds", fn := fun _ => fun
  | [d1, d2, d3] => { results := [.lit (.bool false)], args := [d1, d2, d3] }
  | _ => none }
def TrigAddsWrongFalsely : Prop := trigAddsRow.holds Tryz.pinned (OpenSpec.ofChange trigAddsWrong)

/- THE SECOND FORM. 'bulk': how many values and letters a reading holds, each counted each time it is reached (what is shared counts as often as it is met; a slice's spare places count too). A statement '..UptoSaid' is the law's where the arguments, and the package variables that the reading takes, are together of bulk at most 1048576: NARROWER than '..Said'. Prove '..Said' where nothing that the law and all that it calls make is longer than what came in: it says more and counts as full. Else prove '..UptoSaid'. A law counts once. -/
mutual
def uptoBulk {H : Type} : DataW H → Nat
  | .lit (.string bytes) => bytes.length + 1
  | .lit _ => 1
  | .nil => 1
  | .ptr d => uptoBulk d + 1
  | .slice elems spare => uptoBulkAll elems + uptoBulkAll spare + 1
  | .agg parts => uptoBulkAll parts + 1
  | .iface _ d => uptoBulk d + 1
  | .map entries => uptoBulkEntries entries + 1
  | .held _ => 1
def uptoBulkAll {H : Type} : List (DataW H) → Nat
  | [] => 0
  | d :: r => uptoBulk d + uptoBulkAll r
def uptoBulkEntries {H : Type} : List (Lit × DataW H) → Nat
  | [] => 0
  | x :: r => uptoBulkEntry x + uptoBulkEntries r
def uptoBulkEntry {H : Type} : Lit × DataW H → Nat
  | (.string bytes, d) => bytes.length + uptoBulk d + 1
  | (_, d) => uptoBulk d + 1
 end
def uptoSmall : (H : Type) → List (DataW H) → Bool := fun _ ds => decide (uptoBulkAll ds ≤ 1048576)
def OpenSpec.upto (s : _root_.Go.ChangeSpec) : _root_.Go.OpenSpec := { _root_.Go.OpenSpec.ofChange s with cond := some uptoSmall }

/-- 'astrolabelaw09.ExpoExp', WHERE WHAT IT READS IS OF BULK AT MOST 1048576: true; the input reads as it did. -/
def expoExpUptoRow : OpenClaim := { program := "ytjfcghliglfapaagreat", sum := "e8cdf689734784a17d9aa71c25faeb239d4f1b3149b48beba4ff7d05a7dde71a", func := "astrolabe/astrolabelaw09.ExpoExp", spec := "expoExp", unfollowed := true, recurses := true, named := ["math/bits.overflowError"], apart := false, narrowed := true }
def ExpoExpUptoSaid : Prop := expoExpUptoRow.holds Tryz.pinned (OpenSpec.upto expoExpSpec)

/-- 'astrolabelaw09.ExpoLn', WHERE WHAT IT READS IS OF BULK AT MOST 1048576: true; the input reads as it did. -/
def expoLnUptoRow : OpenClaim := { program := "ytjfcghliglfapaagreat", sum := "e8cdf689734784a17d9aa71c25faeb239d4f1b3149b48beba4ff7d05a7dde71a", func := "astrolabe/astrolabelaw09.ExpoLn", spec := "expoLn", unfollowed := true, recurses := true, named := ["math/bits.overflowError"], apart := false, narrowed := true }
def ExpoLnUptoSaid : Prop := expoLnUptoRow.holds Tryz.pinned (OpenSpec.upto expoLnSpec)

/-- 'astrolabelaw09.ExpoAdds', WHERE WHAT IT READS IS OF BULK AT MOST 1048576: true; the input reads as it did. -/
def expoAddsUptoRow : OpenClaim := { program := "ytjfcghliglfapaagreat", sum := "e8cdf689734784a17d9aa71c25faeb239d4f1b3149b48beba4ff7d05a7dde71a", func := "astrolabe/astrolabelaw09.ExpoAdds", spec := "expoAdds", unfollowed := true, recurses := true, named := ["math/bits.overflowError"], apart := false, narrowed := true }
def ExpoAddsUptoSaid : Prop := expoAddsUptoRow.holds Tryz.pinned (OpenSpec.upto expoAddsSpec)

/-- 'astrolabelaw09.ExpoTwos', WHERE WHAT IT READS IS OF BULK AT MOST 1048576: true; the input reads as it did. -/
def expoTwosUptoRow : OpenClaim := { program := "ytjfcghliglfapaagreat", sum := "e8cdf689734784a17d9aa71c25faeb239d4f1b3149b48beba4ff7d05a7dde71a", func := "astrolabe/astrolabelaw09.ExpoTwos", spec := "expoTwos", unfollowed := true, recurses := true, named := ["math/bits.overflowError"], apart := false, narrowed := true }
def ExpoTwosUptoSaid : Prop := expoTwosUptoRow.holds Tryz.pinned (OpenSpec.upto expoTwosSpec)

/-- 'astrolabelaw09.ExpoRises', WHERE WHAT IT READS IS OF BULK AT MOST 1048576: true; the input reads as it did. -/
def expoRisesUptoRow : OpenClaim := { program := "ytjfcghliglfapaagreat", sum := "e8cdf689734784a17d9aa71c25faeb239d4f1b3149b48beba4ff7d05a7dde71a", func := "astrolabe/astrolabelaw09.ExpoRises", spec := "expoRises", unfollowed := true, recurses := true, named := ["math/bits.overflowError"], apart := false, narrowed := true }
def ExpoRisesUptoSaid : Prop := expoRisesUptoRow.holds Tryz.pinned (OpenSpec.upto expoRisesSpec)

/-- 'astrolabelaw09.ExpoOf', WHERE WHAT IT READS IS OF BULK AT MOST 1048576: true; the input reads as it did. -/
def expoOfUptoRow : OpenClaim := { program := "ytjfcghliglfapaagreat", sum := "e8cdf689734784a17d9aa71c25faeb239d4f1b3149b48beba4ff7d05a7dde71a", func := "astrolabe/astrolabelaw09.ExpoOf", spec := "expoOf", unfollowed := true, recurses := true, named := ["math/bits.overflowError"], apart := false, narrowed := true }
def ExpoOfUptoSaid : Prop := expoOfUptoRow.holds Tryz.pinned (OpenSpec.upto expoOfSpec)

/-- 'astrolabelaw09.ExpoNarrow', WHERE WHAT IT READS IS OF BULK AT MOST 1048576: true; the input reads as it did. -/
def expoNarrowUptoRow : OpenClaim := { program := "ytjfcghliglfapaagreat", sum := "e8cdf689734784a17d9aa71c25faeb239d4f1b3149b48beba4ff7d05a7dde71a", func := "astrolabe/astrolabelaw09.ExpoNarrow", spec := "expoNarrow", unfollowed := true, recurses := true, named := ["math/bits.overflowError"], apart := false, narrowed := true }
def ExpoNarrowUptoSaid : Prop := expoNarrowUptoRow.holds Tryz.pinned (OpenSpec.upto expoNarrowSpec)

/-- 'astrolabelaw09.ExpoBack', WHERE WHAT IT READS IS OF BULK AT MOST 1048576: true; the input reads as it did. -/
def expoBackUptoRow : OpenClaim := { program := "ytjfcghliglfapaagreat", sum := "e8cdf689734784a17d9aa71c25faeb239d4f1b3149b48beba4ff7d05a7dde71a", func := "astrolabe/astrolabelaw09.ExpoBack", spec := "expoBack", unfollowed := true, recurses := true, named := ["math/bits.overflowError"], apart := false, narrowed := true }
def ExpoBackUptoSaid : Prop := expoBackUptoRow.holds Tryz.pinned (OpenSpec.upto expoBackSpec)

/-- 'astrolabelaw10.TrigTurns', WHERE WHAT IT READS IS OF BULK AT MOST 1048576: true; the input reads as it did. -/
def trigTurnsUptoRow : OpenClaim := { program := "ytjfcghliglfapaagreat", sum := "e8cdf689734784a17d9aa71c25faeb239d4f1b3149b48beba4ff7d05a7dde71a", func := "astrolabe/astrolabelaw10.TrigTurns", spec := "trigTurns", unfollowed := true, recurses := true, named := ["math/bits.overflowError"], apart := false, narrowed := true }
def TrigTurnsUptoSaid : Prop := trigTurnsUptoRow.holds Tryz.pinned (OpenSpec.upto trigTurnsSpec)

/-- 'astrolabelaw10.TrigSines', WHERE WHAT IT READS IS OF BULK AT MOST 1048576: true; the input reads as it did. -/
def trigSinesUptoRow : OpenClaim := { program := "ytjfcghliglfapaagreat", sum := "e8cdf689734784a17d9aa71c25faeb239d4f1b3149b48beba4ff7d05a7dde71a", func := "astrolabe/astrolabelaw10.TrigSines", spec := "trigSines", unfollowed := true, recurses := true, named := ["math/bits.overflowError"], apart := false, narrowed := true }
def TrigSinesUptoSaid : Prop := trigSinesUptoRow.holds Tryz.pinned (OpenSpec.upto trigSinesSpec)

/-- 'astrolabelaw10.TrigRest', WHERE WHAT IT READS IS OF BULK AT MOST 1048576: true; the input reads as it did. -/
def trigRestUptoRow : OpenClaim := { program := "ytjfcghliglfapaagreat", sum := "e8cdf689734784a17d9aa71c25faeb239d4f1b3149b48beba4ff7d05a7dde71a", func := "astrolabe/astrolabelaw10.TrigRest", spec := "trigRest", unfollowed := true, recurses := true, named := ["math/bits.overflowError"], apart := false, narrowed := true }
def TrigRestUptoSaid : Prop := trigRestUptoRow.holds Tryz.pinned (OpenSpec.upto trigRestSpec)

/-- 'astrolabelaw10.TrigAdds', WHERE WHAT IT READS IS OF BULK AT MOST 1048576: true; the input reads as it did. -/
def trigAddsUptoRow : OpenClaim := { program := "ytjfcghliglfapaagreat", sum := "e8cdf689734784a17d9aa71c25faeb239d4f1b3149b48beba4ff7d05a7dde71a", func := "astrolabe/astrolabelaw10.TrigAdds", spec := "trigAdds", unfollowed := true, recurses := true, named := ["math/bits.overflowError"], apart := false, narrowed := true }
def TrigAddsUptoSaid : Prop := trigAddsUptoRow.holds Tryz.pinned (OpenSpec.upto trigAddsSpec)

end Rows
end Go.Proofs.YtjfcghliglfapaaGreat
