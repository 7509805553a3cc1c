/-
  No cell of these rows narrows 'for every input' (looked for: loops, veiled, ifaces, maps, wideKeys, modest, calm, conditions, laid).
  DERIVED. THE GIVEN ROWS OF THIS SEAT. 5 by the template 'for every input the law returns true; each argument reads behind the call as it read before'; 0 by the template 'total and deterministic' (their statements: YtmbkkopbpiehdaaTotals.lean).
  GIVEN WITH THE SEED: the statements are not yours to turn. If you find one false, say at which input.
  Laid BY PROGRAM, IN A SANDBOX (cutbox-rows.mjs): the forced cells as the released guide's own fill.sh prints them over the translation 727da90250a0b4fa… (all of the seat's roots in one cut). By AI agents, Wed Nov 11 2026. No macro, syntax, notation, axiom, sorry.
-/
import Derived.Test.YtmbkkopbpiehdaaChecked
import GoSem.Claim
import GoSem.ClaimJoined
import GoSem.ClaimMapViews
import Derived.JoinedTies
import Derived.KernelRfl
namespace Go.Proofs.Ytmbkkopbpiehdaa
/- THE CELL 'sum', in the pinned program and in every row, IS THE sha256 OF THE DUMP (.gsa) THAT YtmbkkopbpiehdaaProg.lean LOADS. Nothing in Lean hashes anything: it is a label: what it is worth is what the hold of that sum in a sandbox is worth. -/
noncomputable def Try.pinned : Pinned := { name := "ytmbkkopbpiehdaa", sum := "727da90250a0b4fad439a0e74261c03a84d4e63d2df0a029b612904cde59608f", checked := Try.checked }
namespace Rows
def none {H : Type} : Left H := { results := [], args := [] }

/-- 'vetchlaw19.FordChecks': WHATEVER THE INPUT: true; the input reads as it did. -/
def fordChecksSpec : ChangeSpec := { name := "fordChecks", fn := fun _ => fun
  | [d1, d2, d3, d4, d5] => { results := [.lit (.bool true)], args := [d1, d2, d3, d4, d5] }
  | _ => none }
def fordChecksRow : OpenClaim := { program := "ytmbkkopbpiehdaa", sum := "727da90250a0b4fad439a0e74261c03a84d4e63d2df0a029b612904cde59608f", func := "vetch/vetchlaw19.FordChecks", spec := "fordChecks", unfollowed := true, recurses := true, plainKeys := false, apart := false }
def FordChecksSaid : Prop := fordChecksRow.holds Try.pinned (OpenSpec.ofChange fordChecksSpec)

/-- ITS FALSE NEIGHBOUR: 'it returns false'. Refute it at one input. -/
def fordChecksWrong : ChangeSpec := { name := "fordChecks", fn := fun _ => fun
  | [d1, d2, d3, d4, d5] => { results := [.lit (.bool false)], args := [d1, d2, d3, d4, d5] }
  | _ => none }
def FordChecksWrongFalsely : Prop := fordChecksRow.holds Try.pinned (OpenSpec.ofChange fordChecksWrong)

/-- 'vetchlaw19.FordProves': WHATEVER THE INPUT: true; the input reads as it did. -/
def fordProvesSpec : ChangeSpec := { name := "fordProves", fn := fun _ => fun
  | [d1, d2, d3] => { results := [.lit (.bool true)], args := [d1, d2, d3] }
  | _ => none }
def fordProvesRow : OpenClaim := { program := "ytmbkkopbpiehdaa", sum := "727da90250a0b4fad439a0e74261c03a84d4e63d2df0a029b612904cde59608f", func := "vetch/vetchlaw19.FordProves", spec := "fordProves", unfollowed := true, recurses := true, plainKeys := false, apart := false }
def FordProvesSaid : Prop := fordProvesRow.holds Try.pinned (OpenSpec.ofChange fordProvesSpec)

/-- ITS FALSE NEIGHBOUR: 'it returns false'. Refute it at one input. -/
def fordProvesWrong : ChangeSpec := { name := "fordProves", fn := fun _ => fun
  | [d1, d2, d3] => { results := [.lit (.bool false)], args := [d1, d2, d3] }
  | _ => none }
def FordProvesWrongFalsely : Prop := fordProvesRow.holds Try.pinned (OpenSpec.ofChange fordProvesWrong)

/-- 'vetchlaw19.FordAgrees': WHATEVER THE INPUT: true; the input reads as it did. -/
def fordAgreesSpec : ChangeSpec := { name := "fordAgrees", fn := fun _ => fun
  | [d1, d2, d3] => { results := [.lit (.bool true)], args := [d1, d2, d3] }
  | _ => none }
def fordAgreesRow : OpenClaim := { program := "ytmbkkopbpiehdaa", sum := "727da90250a0b4fad439a0e74261c03a84d4e63d2df0a029b612904cde59608f", func := "vetch/vetchlaw19.FordAgrees", spec := "fordAgrees", unfollowed := true, recurses := true, plainKeys := false, apart := false }
def FordAgreesSaid : Prop := fordAgreesRow.holds Try.pinned (OpenSpec.ofChange fordAgreesSpec)

/-- ITS FALSE NEIGHBOUR: 'it returns false'. Refute it at one input. -/
def fordAgreesWrong : ChangeSpec := { name := "fordAgrees", fn := fun _ => fun
  | [d1, d2, d3] => { results := [.lit (.bool false)], args := [d1, d2, d3] }
  | _ => none }
def FordAgreesWrongFalsely : Prop := fordAgreesRow.holds Try.pinned (OpenSpec.ofChange fordAgreesWrong)

/-- 'vetchlaw19.FordUnique': WHATEVER THE INPUT: true; the input reads as it did. -/
def fordUniqueSpec : ChangeSpec := { name := "fordUnique", fn := fun _ => fun
  | [d1, d2, d3] => { results := [.lit (.bool true)], args := [d1, d2, d3] }
  | _ => none }
def fordUniqueRow : OpenClaim := { program := "ytmbkkopbpiehdaa", sum := "727da90250a0b4fad439a0e74261c03a84d4e63d2df0a029b612904cde59608f", func := "vetch/vetchlaw19.FordUnique", spec := "fordUnique", unfollowed := true, recurses := true, plainKeys := false, apart := false }
def FordUniqueSaid : Prop := fordUniqueRow.holds Try.pinned (OpenSpec.ofChange fordUniqueSpec)

/-- ITS FALSE NEIGHBOUR: 'it returns false'. Refute it at one input. -/
def fordUniqueWrong : ChangeSpec := { name := "fordUnique", fn := fun _ => fun
  | [d1, d2, d3] => { results := [.lit (.bool false)], args := [d1, d2, d3] }
  | _ => none }
def FordUniqueWrongFalsely : Prop := fordUniqueRow.holds Try.pinned (OpenSpec.ofChange fordUniqueWrong)

/-- 'vetchlaw19.FordTotal': WHATEVER THE INPUT: true; the input reads as it did. -/
def fordTotalSpec : ChangeSpec := { name := "fordTotal", fn := fun _ => fun
  | [d1, d2] => { results := [.lit (.bool true)], args := [d1, d2] }
  | _ => none }
def fordTotalRow : OpenClaim := { program := "ytmbkkopbpiehdaa", sum := "727da90250a0b4fad439a0e74261c03a84d4e63d2df0a029b612904cde59608f", func := "vetch/vetchlaw19.FordTotal", spec := "fordTotal", unfollowed := true, recurses := true, plainKeys := false, apart := false }
def FordTotalSaid : Prop := fordTotalRow.holds Try.pinned (OpenSpec.ofChange fordTotalSpec)

/-- ITS FALSE NEIGHBOUR: 'it returns false'. Refute it at one input. -/
def fordTotalWrong : ChangeSpec := { name := "fordTotal", fn := fun _ => fun
  | [d1, d2] => { results := [.lit (.bool false)], args := [d1, d2] }
  | _ => none }
def FordTotalWrongFalsely : Prop := fordTotalRow.holds Try.pinned (OpenSpec.ofChange fordTotalWrong)

/- THE SECOND FORM. 'bulk': how many values and letters a reading holds, each counted each time it is reached (what is shared counts as often as it is met; a slice's spare places count too). A statement '..UptoSaid' is the law's where the arguments, and the package variables that the reading takes, are together of bulk at most 1048576: NARROWER than '..Said'. Prove '..Said' where nothing that the law and all that it calls make is longer than what came in: it says more and counts as full. Else prove '..UptoSaid'. A law counts once. -/
mutual
def uptoBulk {H : Type} : DataW H → Nat
  | .lit (.string bytes) => bytes.length + 1
  | .lit _ => 1
  | .nil => 1
  | .ptr d => uptoBulk d + 1
  | .slice elems spare => uptoBulkAll elems + uptoBulkAll spare + 1
  | .agg parts => uptoBulkAll parts + 1
  | .iface _ d => uptoBulk d + 1
  | .map entries => uptoBulkEntries entries + 1
  | .held _ => 1
def uptoBulkAll {H : Type} : List (DataW H) → Nat
  | [] => 0
  | d :: r => uptoBulk d + uptoBulkAll r
def uptoBulkEntries {H : Type} : List (Lit × DataW H) → Nat
  | [] => 0
  | x :: r => uptoBulkEntry x + uptoBulkEntries r
def uptoBulkEntry {H : Type} : Lit × DataW H → Nat
  | (.string bytes, d) => bytes.length + uptoBulk d + 1
  | (_, d) => uptoBulk d + 1
 end
def uptoSmall : (H : Type) → List (DataW H) → Bool := fun _ ds => decide (uptoBulkAll ds ≤ 1048576)
def OpenSpec.upto (s : _root_.Go.ChangeSpec) : _root_.Go.OpenSpec := { _root_.Go.OpenSpec.ofChange s with cond := some uptoSmall }

/-- 'vetchlaw19.FordChecks', WHERE WHAT IT READS IS OF BULK AT MOST 1048576: true; the input reads as it did. -/
def fordChecksUptoRow : OpenClaim := { program := "ytmbkkopbpiehdaa", sum := "727da90250a0b4fad439a0e74261c03a84d4e63d2df0a029b612904cde59608f", func := "vetch/vetchlaw19.FordChecks", spec := "fordChecks", unfollowed := true, recurses := true, plainKeys := false, apart := false, narrowed := true }
def FordChecksUptoSaid : Prop := fordChecksUptoRow.holds Try.pinned (OpenSpec.upto fordChecksSpec)

/-- 'vetchlaw19.FordProves', WHERE WHAT IT READS IS OF BULK AT MOST 1048576: true; the input reads as it did. -/
def fordProvesUptoRow : OpenClaim := { program := "ytmbkkopbpiehdaa", sum := "727da90250a0b4fad439a0e74261c03a84d4e63d2df0a029b612904cde59608f", func := "vetch/vetchlaw19.FordProves", spec := "fordProves", unfollowed := true, recurses := true, plainKeys := false, apart := false, narrowed := true }
def FordProvesUptoSaid : Prop := fordProvesUptoRow.holds Try.pinned (OpenSpec.upto fordProvesSpec)

/-- 'vetchlaw19.FordAgrees', WHERE WHAT IT READS IS OF BULK AT MOST 1048576: true; the input reads as it did. -/
def fordAgreesUptoRow : OpenClaim := { program := "ytmbkkopbpiehdaa", sum := "727da90250a0b4fad439a0e74261c03a84d4e63d2df0a029b612904cde59608f", func := "vetch/vetchlaw19.FordAgrees", spec := "fordAgrees", unfollowed := true, recurses := true, plainKeys := false, apart := false, narrowed := true }
def FordAgreesUptoSaid : Prop := fordAgreesUptoRow.holds Try.pinned (OpenSpec.upto fordAgreesSpec)

/-- 'vetchlaw19.FordUnique', WHERE WHAT IT READS IS OF BULK AT MOST 1048576: true; the input reads as it did. -/
def fordUniqueUptoRow : OpenClaim := { program := "ytmbkkopbpiehdaa", sum := "727da90250a0b4fad439a0e74261c03a84d4e63d2df0a029b612904cde59608f", func := "vetch/vetchlaw19.FordUnique", spec := "fordUnique", unfollowed := true, recurses := true, plainKeys := false, apart := false, narrowed := true }
def FordUniqueUptoSaid : Prop := fordUniqueUptoRow.holds Try.pinned (OpenSpec.upto fordUniqueSpec)

/-- 'vetchlaw19.FordTotal', WHERE WHAT IT READS IS OF BULK AT MOST 1048576: true; the input reads as it did. -/
def fordTotalUptoRow : OpenClaim := { program := "ytmbkkopbpiehdaa", sum := "727da90250a0b4fad439a0e74261c03a84d4e63d2df0a029b612904cde59608f", func := "vetch/vetchlaw19.FordTotal", spec := "fordTotal", unfollowed := true, recurses := true, plainKeys := false, apart := false, narrowed := true }
def FordTotalUptoSaid : Prop := fordTotalUptoRow.holds Try.pinned (OpenSpec.upto fordTotalSpec)

end Rows
end Go.Proofs.Ytmbkkopbpiehdaa
