/-
  No cell of these rows narrows 'for every input' (looked for: loops, veiled, ifaces, maps, wideKeys, modest, calm, conditions, laid).
  DERIVED. THE GIVEN ROWS OF THIS SEAT. 9 by the template 'for every input the law returns true; each argument reads behind the call as it read before'; 0 by the template 'total and deterministic' (their statements: YtedoloapddmanaaTotals.lean).
  GIVEN WITH THE SEED: the statements are not yours to turn. If you find one false, say at which input.
  Laid BY PROGRAM, IN A SANDBOX (cutbox-rows.mjs): the forced cells as the released guide's own fill.sh prints them over the translation ce1fcb9bab162567… (all of the seat's roots in one cut). By AI agents, Wed Nov 11 2026. No macro, syntax, notation, axiom, sorry.
-/
import Derived.Test.YtedoloapddmanaaChecked
import GoSem.Claim
import GoSem.ClaimJoined
import GoSem.ClaimMapViews
import Derived.JoinedTies
import Derived.KernelRfl
namespace Go.Proofs.Ytedoloapddmanaa
/- THE CELL 'sum', in the pinned program and in every row, IS THE sha256 OF THE DUMP (.gsa) THAT YtedoloapddmanaaProg.lean LOADS. Nothing in Lean hashes anything: it is a label: what it is worth is what the hold of that sum in a sandbox is worth. -/
noncomputable def Try.pinned : Pinned := { name := "ytedoloapddmanaa", sum := "ce1fcb9bab162567792db87a82630a8b4996dbd38c5f92d5db7f87a80f03a4d3", checked := Try.checked }
namespace Rows
def none {H : Type} : Left H := { results := [], args := [] }

/-- 'standbylaw32.CommitStarts': WHATEVER THE INPUT: true; the input reads as it did. -/
def commitStartsSpec : ChangeSpec := { name := "commitStarts", fn := fun _ => fun
  | [d1, d2] => { results := [.lit (.bool true)], args := [d1, d2] }
  | _ => none }
def commitStartsRow : OpenClaim := { program := "ytedoloapddmanaa", sum := "ce1fcb9bab162567792db87a82630a8b4996dbd38c5f92d5db7f87a80f03a4d3", func := "standby/standbylaw32.CommitStarts", spec := "commitStarts", unfollowed := true, recurses := true, apart := false }
def CommitStartsSaid : Prop := commitStartsRow.holds Try.pinned (OpenSpec.ofChange commitStartsSpec)

/-- ITS FALSE NEIGHBOUR: 'it returns false'. Refute it at one input. -/
def commitStartsWrong : ChangeSpec := { name := "commitStarts", fn := fun _ => fun
  | [d1, d2] => { results := [.lit (.bool false)], args := [d1, d2] }
  | _ => none }
def CommitStartsWrongFalsely : Prop := commitStartsRow.holds Try.pinned (OpenSpec.ofChange commitStartsWrong)

/-- 'standbylaw32.CommitOffers': WHATEVER THE INPUT: true; the input reads as it did. -/
def commitOffersSpec : ChangeSpec := { name := "commitOffers", fn := fun _ => fun
  | [d1, d2] => { results := [.lit (.bool true)], args := [d1, d2] }
  | _ => none }
def commitOffersRow : OpenClaim := { program := "ytedoloapddmanaa", sum := "ce1fcb9bab162567792db87a82630a8b4996dbd38c5f92d5db7f87a80f03a4d3", func := "standby/standbylaw32.CommitOffers", spec := "commitOffers", unfollowed := true, recurses := true, apart := false }
def CommitOffersSaid : Prop := commitOffersRow.holds Try.pinned (OpenSpec.ofChange commitOffersSpec)

/-- ITS FALSE NEIGHBOUR: 'it returns false'. Refute it at one input. -/
def commitOffersWrong : ChangeSpec := { name := "commitOffers", fn := fun _ => fun
  | [d1, d2] => { results := [.lit (.bool false)], args := [d1, d2] }
  | _ => none }
def CommitOffersWrongFalsely : Prop := commitOffersRow.holds Try.pinned (OpenSpec.ofChange commitOffersWrong)

/-- 'standbylaw32.CommitLearns': WHATEVER THE INPUT: true; the input reads as it did. -/
def commitLearnsSpec : ChangeSpec := { name := "commitLearns", fn := fun _ => fun
  | [d1, d2] => { results := [.lit (.bool true)], args := [d1, d2] }
  | _ => none }
def commitLearnsRow : OpenClaim := { program := "ytedoloapddmanaa", sum := "ce1fcb9bab162567792db87a82630a8b4996dbd38c5f92d5db7f87a80f03a4d3", func := "standby/standbylaw32.CommitLearns", spec := "commitLearns", unfollowed := true, recurses := true, apart := false }
def CommitLearnsSaid : Prop := commitLearnsRow.holds Try.pinned (OpenSpec.ofChange commitLearnsSpec)

/-- ITS FALSE NEIGHBOUR: 'it returns false'. Refute it at one input. -/
def commitLearnsWrong : ChangeSpec := { name := "commitLearns", fn := fun _ => fun
  | [d1, d2] => { results := [.lit (.bool false)], args := [d1, d2] }
  | _ => none }
def CommitLearnsWrongFalsely : Prop := commitLearnsRow.holds Try.pinned (OpenSpec.ofChange commitLearnsWrong)

/-- 'standbylaw32.CommitStores': WHATEVER THE INPUT: true; the input reads as it did. -/
def commitStoresSpec : ChangeSpec := { name := "commitStores", fn := fun _ => fun
  | [d1, d2] => { results := [.lit (.bool true)], args := [d1, d2] }
  | _ => none }
def commitStoresRow : OpenClaim := { program := "ytedoloapddmanaa", sum := "ce1fcb9bab162567792db87a82630a8b4996dbd38c5f92d5db7f87a80f03a4d3", func := "standby/standbylaw32.CommitStores", spec := "commitStores", unfollowed := true, recurses := true, apart := false }
def CommitStoresSaid : Prop := commitStoresRow.holds Try.pinned (OpenSpec.ofChange commitStoresSpec)

/-- ITS FALSE NEIGHBOUR: 'it returns false'. Refute it at one input. -/
def commitStoresWrong : ChangeSpec := { name := "commitStores", fn := fun _ => fun
  | [d1, d2] => { results := [.lit (.bool false)], args := [d1, d2] }
  | _ => none }
def CommitStoresWrongFalsely : Prop := commitStoresRow.holds Try.pinned (OpenSpec.ofChange commitStoresWrong)

/-- 'standbylaw32.CommitAnswers': WHATEVER THE INPUT: true; the input reads as it did. -/
def commitAnswersSpec : ChangeSpec := { name := "commitAnswers", fn := fun _ => fun
  | [d1, d2] => { results := [.lit (.bool true)], args := [d1, d2] }
  | _ => none }
def commitAnswersRow : OpenClaim := { program := "ytedoloapddmanaa", sum := "ce1fcb9bab162567792db87a82630a8b4996dbd38c5f92d5db7f87a80f03a4d3", func := "standby/standbylaw32.CommitAnswers", spec := "commitAnswers", unfollowed := true, recurses := true, apart := false }
def CommitAnswersSaid : Prop := commitAnswersRow.holds Try.pinned (OpenSpec.ofChange commitAnswersSpec)

/-- ITS FALSE NEIGHBOUR: 'it returns false'. Refute it at one input. -/
def commitAnswersWrong : ChangeSpec := { name := "commitAnswers", fn := fun _ => fun
  | [d1, d2] => { results := [.lit (.bool false)], args := [d1, d2] }
  | _ => none }
def CommitAnswersWrongFalsely : Prop := commitAnswersRow.holds Try.pinned (OpenSpec.ofChange commitAnswersWrong)

/-- 'standbylaw32.CommitSafe': WHATEVER THE INPUT: true; the input reads as it did. -/
def commitSafeSpec : ChangeSpec := { name := "commitSafe", fn := fun _ => fun
  | [d] => { results := [.lit (.bool true)], args := [d] }
  | _ => none }
def commitSafeRow : OpenClaim := { program := "ytedoloapddmanaa", sum := "ce1fcb9bab162567792db87a82630a8b4996dbd38c5f92d5db7f87a80f03a4d3", func := "standby/standbylaw32.CommitSafe", spec := "commitSafe", unfollowed := true, recurses := true, apart := false }
def CommitSafeSaid : Prop := commitSafeRow.holds Try.pinned (OpenSpec.ofChange commitSafeSpec)

/-- ITS FALSE NEIGHBOUR: 'it returns false'. Refute it at one input. -/
def commitSafeWrong : ChangeSpec := { name := "commitSafe", fn := fun _ => fun
  | [d] => { results := [.lit (.bool false)], args := [d] }
  | _ => none }
def CommitSafeWrongFalsely : Prop := commitSafeRow.holds Try.pinned (OpenSpec.ofChange commitSafeWrong)

/-- 'standbylaw32.CommitGrows': WHATEVER THE INPUT: true; the input reads as it did. -/
def commitGrowsSpec : ChangeSpec := { name := "commitGrows", fn := fun _ => fun
  | [d] => { results := [.lit (.bool true)], args := [d] }
  | _ => none }
def commitGrowsRow : OpenClaim := { program := "ytedoloapddmanaa", sum := "ce1fcb9bab162567792db87a82630a8b4996dbd38c5f92d5db7f87a80f03a4d3", func := "standby/standbylaw32.CommitGrows", spec := "commitGrows", unfollowed := true, recurses := true, apart := false }
def CommitGrowsSaid : Prop := commitGrowsRow.holds Try.pinned (OpenSpec.ofChange commitGrowsSpec)

/-- ITS FALSE NEIGHBOUR: 'it returns false'. Refute it at one input. -/
def commitGrowsWrong : ChangeSpec := { name := "commitGrows", fn := fun _ => fun
  | [d] => { results := [.lit (.bool false)], args := [d] }
  | _ => none }
def CommitGrowsWrongFalsely : Prop := commitGrowsRow.holds Try.pinned (OpenSpec.ofChange commitGrowsWrong)

/-- 'standbylaw32.CommitCompletes': WHATEVER THE INPUT: true; the input reads as it did. -/
def commitCompletesSpec : ChangeSpec := { name := "commitCompletes", fn := fun _ => fun
  | [d] => { results := [.lit (.bool true)], args := [d] }
  | _ => none }
def commitCompletesRow : OpenClaim := { program := "ytedoloapddmanaa", sum := "ce1fcb9bab162567792db87a82630a8b4996dbd38c5f92d5db7f87a80f03a4d3", func := "standby/standbylaw32.CommitCompletes", spec := "commitCompletes", unfollowed := true, recurses := true, apart := false }
def CommitCompletesSaid : Prop := commitCompletesRow.holds Try.pinned (OpenSpec.ofChange commitCompletesSpec)

/-- ITS FALSE NEIGHBOUR: 'it returns false'. Refute it at one input. -/
def commitCompletesWrong : ChangeSpec := { name := "commitCompletes", fn := fun _ => fun
  | [d] => { results := [.lit (.bool false)], args := [d] }
  | _ => none }
def CommitCompletesWrongFalsely : Prop := commitCompletesRow.holds Try.pinned (OpenSpec.ofChange commitCompletesWrong)

/-- 'standbylaw32.CommitRefuses': WHATEVER THE INPUT: true; the input reads as it did. -/
def commitRefusesSpec : ChangeSpec := { name := "commitRefuses", fn := fun _ => fun
  | [d] => { results := [.lit (.bool true)], args := [d] }
  | _ => none }
def commitRefusesRow : OpenClaim := { program := "ytedoloapddmanaa", sum := "ce1fcb9bab162567792db87a82630a8b4996dbd38c5f92d5db7f87a80f03a4d3", func := "standby/standbylaw32.CommitRefuses", spec := "commitRefuses", unfollowed := true, recurses := true, apart := false }
def CommitRefusesSaid : Prop := commitRefusesRow.holds Try.pinned (OpenSpec.ofChange commitRefusesSpec)

/-- ITS FALSE NEIGHBOUR: 'it returns false'. Refute it at one input. -/
def commitRefusesWrong : ChangeSpec := { name := "commitRefuses", fn := fun _ => fun
  | [d] => { results := [.lit (.bool false)], args := [d] }
  | _ => none }
def CommitRefusesWrongFalsely : Prop := commitRefusesRow.holds Try.pinned (OpenSpec.ofChange commitRefusesWrong)

/- THE SECOND FORM. 'bulk': how many values and letters a reading holds, each counted each time it is reached (what is shared counts as often as it is met; a slice's spare places count too). A statement '..UptoSaid' is the law's where the arguments, and the package variables that the reading takes, are together of bulk at most 1048576: NARROWER than '..Said'. Prove '..Said' where nothing that the law and all that it calls make is longer than what came in: it says more and counts as full. Else prove '..UptoSaid'. A law counts once. -/
mutual
def uptoBulk {H : Type} : DataW H → Nat
  | .lit (.string bytes) => bytes.length + 1
  | .lit _ => 1
  | .nil => 1
  | .ptr d => uptoBulk d + 1
  | .slice elems spare => uptoBulkAll elems + uptoBulkAll spare + 1
  | .agg parts => uptoBulkAll parts + 1
  | .iface _ d => uptoBulk d + 1
  | .map entries => uptoBulkEntries entries + 1
  | .held _ => 1
def uptoBulkAll {H : Type} : List (DataW H) → Nat
  | [] => 0
  | d :: r => uptoBulk d + uptoBulkAll r
def uptoBulkEntries {H : Type} : List (Lit × DataW H) → Nat
  | [] => 0
  | x :: r => uptoBulkEntry x + uptoBulkEntries r
def uptoBulkEntry {H : Type} : Lit × DataW H → Nat
  | (.string bytes, d) => bytes.length + uptoBulk d + 1
  | (_, d) => uptoBulk d + 1
 end
def uptoSmall : (H : Type) → List (DataW H) → Bool := fun _ ds => decide (uptoBulkAll ds ≤ 1048576)
def OpenSpec.upto (s : _root_.Go.ChangeSpec) : _root_.Go.OpenSpec := { _root_.Go.OpenSpec.ofChange s with cond := some uptoSmall }

/-- 'standbylaw32.CommitStarts', WHERE WHAT IT READS IS OF BULK AT MOST 1048576: true; the input reads as it did. -/
def commitStartsUptoRow : OpenClaim := { program := "ytedoloapddmanaa", sum := "ce1fcb9bab162567792db87a82630a8b4996dbd38c5f92d5db7f87a80f03a4d3", func := "standby/standbylaw32.CommitStarts", spec := "commitStarts", unfollowed := true, recurses := true, apart := false, narrowed := true }
def CommitStartsUptoSaid : Prop := commitStartsUptoRow.holds Try.pinned (OpenSpec.upto commitStartsSpec)

/-- 'standbylaw32.CommitOffers', WHERE WHAT IT READS IS OF BULK AT MOST 1048576: true; the input reads as it did. -/
def commitOffersUptoRow : OpenClaim := { program := "ytedoloapddmanaa", sum := "ce1fcb9bab162567792db87a82630a8b4996dbd38c5f92d5db7f87a80f03a4d3", func := "standby/standbylaw32.CommitOffers", spec := "commitOffers", unfollowed := true, recurses := true, apart := false, narrowed := true }
def CommitOffersUptoSaid : Prop := commitOffersUptoRow.holds Try.pinned (OpenSpec.upto commitOffersSpec)

/-- 'standbylaw32.CommitLearns', WHERE WHAT IT READS IS OF BULK AT MOST 1048576: true; the input reads as it did. -/
def commitLearnsUptoRow : OpenClaim := { program := "ytedoloapddmanaa", sum := "ce1fcb9bab162567792db87a82630a8b4996dbd38c5f92d5db7f87a80f03a4d3", func := "standby/standbylaw32.CommitLearns", spec := "commitLearns", unfollowed := true, recurses := true, apart := false, narrowed := true }
def CommitLearnsUptoSaid : Prop := commitLearnsUptoRow.holds Try.pinned (OpenSpec.upto commitLearnsSpec)

/-- 'standbylaw32.CommitStores', WHERE WHAT IT READS IS OF BULK AT MOST 1048576: true; the input reads as it did. -/
def commitStoresUptoRow : OpenClaim := { program := "ytedoloapddmanaa", sum := "ce1fcb9bab162567792db87a82630a8b4996dbd38c5f92d5db7f87a80f03a4d3", func := "standby/standbylaw32.CommitStores", spec := "commitStores", unfollowed := true, recurses := true, apart := false, narrowed := true }
def CommitStoresUptoSaid : Prop := commitStoresUptoRow.holds Try.pinned (OpenSpec.upto commitStoresSpec)

/-- 'standbylaw32.CommitAnswers', WHERE WHAT IT READS IS OF BULK AT MOST 1048576: true; the input reads as it did. -/
def commitAnswersUptoRow : OpenClaim := { program := "ytedoloapddmanaa", sum := "ce1fcb9bab162567792db87a82630a8b4996dbd38c5f92d5db7f87a80f03a4d3", func := "standby/standbylaw32.CommitAnswers", spec := "commitAnswers", unfollowed := true, recurses := true, apart := false, narrowed := true }
def CommitAnswersUptoSaid : Prop := commitAnswersUptoRow.holds Try.pinned (OpenSpec.upto commitAnswersSpec)

/-- 'standbylaw32.CommitSafe', WHERE WHAT IT READS IS OF BULK AT MOST 1048576: true; the input reads as it did. -/
def commitSafeUptoRow : OpenClaim := { program := "ytedoloapddmanaa", sum := "ce1fcb9bab162567792db87a82630a8b4996dbd38c5f92d5db7f87a80f03a4d3", func := "standby/standbylaw32.CommitSafe", spec := "commitSafe", unfollowed := true, recurses := true, apart := false, narrowed := true }
def CommitSafeUptoSaid : Prop := commitSafeUptoRow.holds Try.pinned (OpenSpec.upto commitSafeSpec)

/-- 'standbylaw32.CommitGrows', WHERE WHAT IT READS IS OF BULK AT MOST 1048576: true; the input reads as it did. -/
def commitGrowsUptoRow : OpenClaim := { program := "ytedoloapddmanaa", sum := "ce1fcb9bab162567792db87a82630a8b4996dbd38c5f92d5db7f87a80f03a4d3", func := "standby/standbylaw32.CommitGrows", spec := "commitGrows", unfollowed := true, recurses := true, apart := false, narrowed := true }
def CommitGrowsUptoSaid : Prop := commitGrowsUptoRow.holds Try.pinned (OpenSpec.upto commitGrowsSpec)

/-- 'standbylaw32.CommitCompletes', WHERE WHAT IT READS IS OF BULK AT MOST 1048576: true; the input reads as it did. -/
def commitCompletesUptoRow : OpenClaim := { program := "ytedoloapddmanaa", sum := "ce1fcb9bab162567792db87a82630a8b4996dbd38c5f92d5db7f87a80f03a4d3", func := "standby/standbylaw32.CommitCompletes", spec := "commitCompletes", unfollowed := true, recurses := true, apart := false, narrowed := true }
def CommitCompletesUptoSaid : Prop := commitCompletesUptoRow.holds Try.pinned (OpenSpec.upto commitCompletesSpec)

/-- 'standbylaw32.CommitRefuses', WHERE WHAT IT READS IS OF BULK AT MOST 1048576: true; the input reads as it did. -/
def commitRefusesUptoRow : OpenClaim := { program := "ytedoloapddmanaa", sum := "ce1fcb9bab162567792db87a82630a8b4996dbd38c5f92d5db7f87a80f03a4d3", func := "standby/standbylaw32.CommitRefuses", spec := "commitRefuses", unfollowed := true, recurses := true, apart := false, narrowed := true }
def CommitRefusesUptoSaid : Prop := commitRefusesUptoRow.holds Try.pinned (OpenSpec.upto commitRefusesSpec)

end Rows
end Go.Proofs.Ytedoloapddmanaa
