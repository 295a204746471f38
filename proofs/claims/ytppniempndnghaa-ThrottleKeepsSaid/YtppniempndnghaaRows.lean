/-
  No cell of these rows narrows 'for every input' (looked for: loops, veiled, ifaces, maps, wideKeys, modest, calm, conditions, laid).
  DERIVED. THE GIVEN ROWS OF THIS SEAT. 6 by the template 'for every input the law returns true; each argument reads behind the call as it read before'; 0 by the template 'total and deterministic' (their statements: YtppniempndnghaaTotals.lean).
  GIVEN WITH THE SEED: the statements are not yours to turn. If you find one false, say at which input.
  Laid BY PROGRAM, IN A SANDBOX (cutbox-rows.mjs): the forced cells as the released guide's own fill.sh prints them over the translation df868011993797de… (all of the seat's roots in one cut). By AI agents, Wed Nov 11 2026. No macro, syntax, notation, axiom, sorry.
-/
import Derived.Test.YtppniempndnghaaChecked
import GoSem.Claim
import GoSem.ClaimJoined
import GoSem.ClaimMapViews
import Derived.JoinedTies
import Derived.KernelRfl
namespace Go.Proofs.Ytppniempndnghaa
/- THE CELL 'sum', in the pinned program and in every row, IS THE sha256 OF THE DUMP (.gsa) THAT YtppniempndnghaaProg.lean LOADS. Nothing in Lean hashes anything: it is a label: what it is worth is what the hold of that sum in a sandbox is worth. -/
noncomputable def Try.pinned : Pinned := { name := "ytppniempndnghaa", sum := "df868011993797defa5305474a579946e2bc855e549a7b1dd86f335be3f8c98d", checked := Try.checked }
namespace Rows
def none {H : Type} : Left H := { results := [], args := [] }

/-- 'standbylaw33.ThrottleMakes': WHATEVER THE INPUT: true; the input reads as it did. -/
def throttleMakesSpec : ChangeSpec := { name := "throttleMakes", fn := fun _ => fun
  | [d1, d2, d3] => { results := [.lit (.bool true)], args := [d1, d2, d3] }
  | _ => none }
def throttleMakesRow : OpenClaim := { program := "ytppniempndnghaa", sum := "df868011993797defa5305474a579946e2bc855e549a7b1dd86f335be3f8c98d", func := "standby/standbylaw33.ThrottleMakes", spec := "throttleMakes", unfollowed := true, recurses := true, apart := false }
def ThrottleMakesSaid : Prop := throttleMakesRow.holds Try.pinned (OpenSpec.ofChange throttleMakesSpec)

/-- ITS FALSE NEIGHBOUR: 'it returns false'. Refute it at one input. -/
def throttleMakesWrong : ChangeSpec := { name := "throttleMakes", fn := fun _ => fun
  | [d1, d2, d3] => { results := [.lit (.bool false)], args := [d1, d2, d3] }
  | _ => none }
def ThrottleMakesWrongFalsely : Prop := throttleMakesRow.holds Try.pinned (OpenSpec.ofChange throttleMakesWrong)

/-- 'standbylaw33.ThrottleWrites': WHATEVER THE INPUT: true; the input reads as it did. -/
def throttleWritesSpec : ChangeSpec := { name := "throttleWrites", fn := fun _ => fun
  | [d1, d2, d3] => { results := [.lit (.bool true)], args := [d1, d2, d3] }
  | _ => none }
def throttleWritesRow : OpenClaim := { program := "ytppniempndnghaa", sum := "df868011993797defa5305474a579946e2bc855e549a7b1dd86f335be3f8c98d", func := "standby/standbylaw33.ThrottleWrites", spec := "throttleWrites", unfollowed := true, recurses := true, apart := false }
def ThrottleWritesSaid : Prop := throttleWritesRow.holds Try.pinned (OpenSpec.ofChange throttleWritesSpec)

/-- ITS FALSE NEIGHBOUR: 'it returns false'. Refute it at one input. -/
def throttleWritesWrong : ChangeSpec := { name := "throttleWrites", fn := fun _ => fun
  | [d1, d2, d3] => { results := [.lit (.bool false)], args := [d1, d2, d3] }
  | _ => none }
def ThrottleWritesWrongFalsely : Prop := throttleWritesRow.holds Try.pinned (OpenSpec.ofChange throttleWritesWrong)

/-- 'standbylaw33.ThrottleKeeps': WHATEVER THE INPUT: true; the input reads as it did. -/
def throttleKeepsSpec : ChangeSpec := { name := "throttleKeeps", fn := fun _ => fun
  | [d1, d2, d3] => { results := [.lit (.bool true)], args := [d1, d2, d3] }
  | _ => none }
def throttleKeepsRow : OpenClaim := { program := "ytppniempndnghaa", sum := "df868011993797defa5305474a579946e2bc855e549a7b1dd86f335be3f8c98d", func := "standby/standbylaw33.ThrottleKeeps", spec := "throttleKeeps", unfollowed := true, recurses := true, apart := false }
def ThrottleKeepsSaid : Prop := throttleKeepsRow.holds Try.pinned (OpenSpec.ofChange throttleKeepsSpec)

/-- ITS FALSE NEIGHBOUR: 'it returns false'. Refute it at one input. -/
def throttleKeepsWrong : ChangeSpec := { name := "throttleKeeps", fn := fun _ => fun
  | [d1, d2, d3] => { results := [.lit (.bool false)], args := [d1, d2, d3] }
  | _ => none }
def ThrottleKeepsWrongFalsely : Prop := throttleKeepsRow.holds Try.pinned (OpenSpec.ofChange throttleKeepsWrong)

/-- 'standbylaw33.ThrottleWaits': WHATEVER THE INPUT: true; the input reads as it did. -/
def throttleWaitsSpec : ChangeSpec := { name := "throttleWaits", fn := fun _ => fun
  | [d1, d2, d3] => { results := [.lit (.bool true)], args := [d1, d2, d3] }
  | _ => none }
def throttleWaitsRow : OpenClaim := { program := "ytppniempndnghaa", sum := "df868011993797defa5305474a579946e2bc855e549a7b1dd86f335be3f8c98d", func := "standby/standbylaw33.ThrottleWaits", spec := "throttleWaits", unfollowed := true, recurses := true, apart := false }
def ThrottleWaitsSaid : Prop := throttleWaitsRow.holds Try.pinned (OpenSpec.ofChange throttleWaitsSpec)

/-- ITS FALSE NEIGHBOUR: 'it returns false'. Refute it at one input. -/
def throttleWaitsWrong : ChangeSpec := { name := "throttleWaits", fn := fun _ => fun
  | [d1, d2, d3] => { results := [.lit (.bool false)], args := [d1, d2, d3] }
  | _ => none }
def ThrottleWaitsWrongFalsely : Prop := throttleWaitsRow.holds Try.pinned (OpenSpec.ofChange throttleWaitsWrong)

/-- 'standbylaw33.ThrottleAccounts': WHATEVER THE INPUT: true; the input reads as it did. -/
def throttleAccountsSpec : ChangeSpec := { name := "throttleAccounts", fn := fun _ => fun
  | [d1, d2, d3] => { results := [.lit (.bool true)], args := [d1, d2, d3] }
  | _ => none }
def throttleAccountsRow : OpenClaim := { program := "ytppniempndnghaa", sum := "df868011993797defa5305474a579946e2bc855e549a7b1dd86f335be3f8c98d", func := "standby/standbylaw33.ThrottleAccounts", spec := "throttleAccounts", unfollowed := true, recurses := true, apart := false }
def ThrottleAccountsSaid : Prop := throttleAccountsRow.holds Try.pinned (OpenSpec.ofChange throttleAccountsSpec)

/-- ITS FALSE NEIGHBOUR: 'it returns false'. Refute it at one input. -/
def throttleAccountsWrong : ChangeSpec := { name := "throttleAccounts", fn := fun _ => fun
  | [d1, d2, d3] => { results := [.lit (.bool false)], args := [d1, d2, d3] }
  | _ => none }
def ThrottleAccountsWrongFalsely : Prop := throttleAccountsRow.holds Try.pinned (OpenSpec.ofChange throttleAccountsWrong)

/-- 'standbytop.TopThrottlePlanned': WHATEVER THE INPUT: true; the input reads as it did. -/
def topThrottlePlannedSpec : ChangeSpec := { name := "topThrottlePlanned", fn := fun _ => fun
  | [d1, d2, d3] => { results := [.lit (.bool true)], args := [d1, d2, d3] }
  | _ => none }
def topThrottlePlannedRow : OpenClaim := { program := "ytppniempndnghaa", sum := "df868011993797defa5305474a579946e2bc855e549a7b1dd86f335be3f8c98d", func := "standby/standbytop.TopThrottlePlanned", spec := "topThrottlePlanned", unfollowed := true, recurses := true, apart := false }
def TopThrottlePlannedSaid : Prop := topThrottlePlannedRow.holds Try.pinned (OpenSpec.ofChange topThrottlePlannedSpec)

/-- ITS FALSE NEIGHBOUR: 'it returns false'. Refute it at one input. -/
def topThrottlePlannedWrong : ChangeSpec := { name := "topThrottlePlanned", fn := fun _ => fun
  | [d1, d2, d3] => { results := [.lit (.bool false)], args := [d1, d2, d3] }
  | _ => none }
def TopThrottlePlannedWrongFalsely : Prop := topThrottlePlannedRow.holds Try.pinned (OpenSpec.ofChange topThrottlePlannedWrong)

/- THE SECOND FORM. 'bulk': how many values and letters a reading holds, each counted each time it is reached (what is shared counts as often as it is met; a slice's spare places count too). A statement '..UptoSaid' is the law's where the arguments, and the package variables that the reading takes, are together of bulk at most 1048576: NARROWER than '..Said'. Prove '..Said' where nothing that the law and all that it calls make is longer than what came in: it says more and counts as full. Else prove '..UptoSaid'. A law counts once. -/
mutual
def uptoBulk {H : Type} : DataW H → Nat
  | .lit (.string bytes) => bytes.length + 1
  | .lit _ => 1
  | .nil => 1
  | .ptr d => uptoBulk d + 1
  | .slice elems spare => uptoBulkAll elems + uptoBulkAll spare + 1
  | .agg parts => uptoBulkAll parts + 1
  | .iface _ d => uptoBulk d + 1
  | .map entries => uptoBulkEntries entries + 1
  | .held _ => 1
def uptoBulkAll {H : Type} : List (DataW H) → Nat
  | [] => 0
  | d :: r => uptoBulk d + uptoBulkAll r
def uptoBulkEntries {H : Type} : List (Lit × DataW H) → Nat
  | [] => 0
  | x :: r => uptoBulkEntry x + uptoBulkEntries r
def uptoBulkEntry {H : Type} : Lit × DataW H → Nat
  | (.string bytes, d) => bytes.length + uptoBulk d + 1
  | (_, d) => uptoBulk d + 1
 end
def uptoSmall : (H : Type) → List (DataW H) → Bool := fun _ ds => decide (uptoBulkAll ds ≤ 1048576)
def OpenSpec.upto (s : _root_.Go.ChangeSpec) : _root_.Go.OpenSpec := { _root_.Go.OpenSpec.ofChange s with cond := some uptoSmall }

/-- 'standbylaw33.ThrottleMakes', WHERE WHAT IT READS IS OF BULK AT MOST 1048576: true; the input reads as it did. -/
def throttleMakesUptoRow : OpenClaim := { program := "ytppniempndnghaa", sum := "df868011993797defa5305474a579946e2bc855e549a7b1dd86f335be3f8c98d", func := "standby/standbylaw33.ThrottleMakes", spec := "throttleMakes", unfollowed := true, recurses := true, apart := false, narrowed := true }
def ThrottleMakesUptoSaid : Prop := throttleMakesUptoRow.holds Try.pinned (OpenSpec.upto throttleMakesSpec)

/-- 'standbylaw33.ThrottleWrites', WHERE WHAT IT READS IS OF BULK AT MOST 1048576: true; the input reads as it did. -/
def throttleWritesUptoRow : OpenClaim := { program := "ytppniempndnghaa", sum := "df868011993797defa5305474a579946e2bc855e549a7b1dd86f335be3f8c98d", func := "standby/standbylaw33.ThrottleWrites", spec := "throttleWrites", unfollowed := true, recurses := true, apart := false, narrowed := true }
def ThrottleWritesUptoSaid : Prop := throttleWritesUptoRow.holds Try.pinned (OpenSpec.upto throttleWritesSpec)

/-- 'standbylaw33.ThrottleKeeps', WHERE WHAT IT READS IS OF BULK AT MOST 1048576: true; the input reads as it did. -/
def throttleKeepsUptoRow : OpenClaim := { program := "ytppniempndnghaa", sum := "df868011993797defa5305474a579946e2bc855e549a7b1dd86f335be3f8c98d", func := "standby/standbylaw33.ThrottleKeeps", spec := "throttleKeeps", unfollowed := true, recurses := true, apart := false, narrowed := true }
def ThrottleKeepsUptoSaid : Prop := throttleKeepsUptoRow.holds Try.pinned (OpenSpec.upto throttleKeepsSpec)

/-- 'standbylaw33.ThrottleWaits', WHERE WHAT IT READS IS OF BULK AT MOST 1048576: true; the input reads as it did. -/
def throttleWaitsUptoRow : OpenClaim := { program := "ytppniempndnghaa", sum := "df868011993797defa5305474a579946e2bc855e549a7b1dd86f335be3f8c98d", func := "standby/standbylaw33.ThrottleWaits", spec := "throttleWaits", unfollowed := true, recurses := true, apart := false, narrowed := true }
def ThrottleWaitsUptoSaid : Prop := throttleWaitsUptoRow.holds Try.pinned (OpenSpec.upto throttleWaitsSpec)

/-- 'standbylaw33.ThrottleAccounts', WHERE WHAT IT READS IS OF BULK AT MOST 1048576: true; the input reads as it did. -/
def throttleAccountsUptoRow : OpenClaim := { program := "ytppniempndnghaa", sum := "df868011993797defa5305474a579946e2bc855e549a7b1dd86f335be3f8c98d", func := "standby/standbylaw33.ThrottleAccounts", spec := "throttleAccounts", unfollowed := true, recurses := true, apart := false, narrowed := true }
def ThrottleAccountsUptoSaid : Prop := throttleAccountsUptoRow.holds Try.pinned (OpenSpec.upto throttleAccountsSpec)

/-- 'standbytop.TopThrottlePlanned', WHERE WHAT IT READS IS OF BULK AT MOST 1048576: true; the input reads as it did. -/
def topThrottlePlannedUptoRow : OpenClaim := { program := "ytppniempndnghaa", sum := "df868011993797defa5305474a579946e2bc855e549a7b1dd86f335be3f8c98d", func := "standby/standbytop.TopThrottlePlanned", spec := "topThrottlePlanned", unfollowed := true, recurses := true, apart := false, narrowed := true }
def TopThrottlePlannedUptoSaid : Prop := topThrottlePlannedUptoRow.holds Try.pinned (OpenSpec.upto topThrottlePlannedSpec)

end Rows
end Go.Proofs.Ytppniempndnghaa
