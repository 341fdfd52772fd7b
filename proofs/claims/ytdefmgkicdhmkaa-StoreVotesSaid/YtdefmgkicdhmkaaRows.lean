/-
  No cell of these rows narrows 'for every input' (looked for: loops, veiled, ifaces, maps, wideKeys, modest, calm, conditions, laid).
  DERIVED. THE GIVEN ROWS OF THIS SEAT. 5 by the template 'for every input the law returns true; each argument reads behind the call as it read before'; 0 by the template 'total and deterministic' (their statements: YtdefmgkicdhmkaaTotals.lean).
  GIVEN WITH THE SEED: the statements are not yours to turn. If you find one false, say at which input.
  Laid BY PROGRAM, IN A SANDBOX (cutbox-rows.mjs): the forced cells as the released guide's own fill.sh prints them over the translation 463b4d28fbd6f9a0… (all of the seat's roots in one cut). By AI agents, Wed Nov 11 2026. No macro, syntax, notation, axiom, sorry.
-/
import Derived.Test.YtdefmgkicdhmkaaChecked
import GoSem.Claim
import GoSem.ClaimJoined
import GoSem.ClaimMapViews
import Derived.JoinedTies
import Derived.KernelRfl
namespace Go.Proofs.Ytdefmgkicdhmkaa
/- THE CELL 'sum', in the pinned program and in every row, IS THE sha256 OF THE DUMP (.gsa) THAT YtdefmgkicdhmkaaProg.lean LOADS. Nothing in Lean hashes anything: it is a label: what it is worth is what the hold of that sum in a sandbox is worth. -/
noncomputable def Try.pinned : Pinned := { name := "ytdefmgkicdhmkaa", sum := "463b4d28fbd6f9a06ff309d0b02f7dcda4deb58851c31352d045d62548c8e465", checked := Try.checked }
namespace Rows
def none {H : Type} : Left H := { results := [], args := [] }

/-- 'psephoslaw14.StoreVotes': WHATEVER THE INPUT: true; the input reads as it did. -/
def storeVotesSpec : ChangeSpec := { name := "storeVotes", fn := fun _ => fun
  | [d1, d2, d3] => { results := [.lit (.bool true)], args := [d1, d2, d3] }
  | _ => none }
def storeVotesRow : OpenClaim := { program := "ytdefmgkicdhmkaa", sum := "463b4d28fbd6f9a06ff309d0b02f7dcda4deb58851c31352d045d62548c8e465", func := "psephos/psephoslaw14.StoreVotes", spec := "storeVotes", unfollowed := true, recurses := true, apart := false }
def StoreVotesSaid : Prop := storeVotesRow.holds Try.pinned (OpenSpec.ofChange storeVotesSpec)

/-- ITS FALSE NEIGHBOUR: 'it returns false'. Refute it at one input. -/
def storeVotesWrong : ChangeSpec := { name := "storeVotes", fn := fun _ => fun
  | [d1, d2, d3] => { results := [.lit (.bool false)], args := [d1, d2, d3] }
  | _ => none }
def StoreVotesWrongFalsely : Prop := storeVotesRow.holds Try.pinned (OpenSpec.ofChange storeVotesWrong)

/-- 'psephoslaw14.StoreTicks': WHATEVER THE INPUT: true; the input reads as it did. -/
def storeTicksSpec : ChangeSpec := { name := "storeTicks", fn := fun _ => fun
  | [d1, d2, d3] => { results := [.lit (.bool true)], args := [d1, d2, d3] }
  | _ => none }
def storeTicksRow : OpenClaim := { program := "ytdefmgkicdhmkaa", sum := "463b4d28fbd6f9a06ff309d0b02f7dcda4deb58851c31352d045d62548c8e465", func := "psephos/psephoslaw14.StoreTicks", spec := "storeTicks", unfollowed := true, recurses := true, apart := false }
def StoreTicksSaid : Prop := storeTicksRow.holds Try.pinned (OpenSpec.ofChange storeTicksSpec)

/-- ITS FALSE NEIGHBOUR: 'it returns false'. Refute it at one input. -/
def storeTicksWrong : ChangeSpec := { name := "storeTicks", fn := fun _ => fun
  | [d1, d2, d3] => { results := [.lit (.bool false)], args := [d1, d2, d3] }
  | _ => none }
def StoreTicksWrongFalsely : Prop := storeTicksRow.holds Try.pinned (OpenSpec.ofChange storeTicksWrong)

/-- 'psephoslaw14.StoreAdds': WHATEVER THE INPUT: true; the input reads as it did. -/
def storeAddsSpec : ChangeSpec := { name := "storeAdds", fn := fun _ => fun
  | [d1, d2, d3] => { results := [.lit (.bool true)], args := [d1, d2, d3] }
  | _ => none }
def storeAddsRow : OpenClaim := { program := "ytdefmgkicdhmkaa", sum := "463b4d28fbd6f9a06ff309d0b02f7dcda4deb58851c31352d045d62548c8e465", func := "psephos/psephoslaw14.StoreAdds", spec := "storeAdds", unfollowed := true, recurses := true, apart := false }
def StoreAddsSaid : Prop := storeAddsRow.holds Try.pinned (OpenSpec.ofChange storeAddsSpec)

/-- ITS FALSE NEIGHBOUR: 'it returns false'. Refute it at one input. -/
def storeAddsWrong : ChangeSpec := { name := "storeAdds", fn := fun _ => fun
  | [d1, d2, d3] => { results := [.lit (.bool false)], args := [d1, d2, d3] }
  | _ => none }
def StoreAddsWrongFalsely : Prop := storeAddsRow.holds Try.pinned (OpenSpec.ofChange storeAddsWrong)

/-- 'psephoslaw14.StoreFinal': WHATEVER THE INPUT: true; the input reads as it did. -/
def storeFinalSpec : ChangeSpec := { name := "storeFinal", fn := fun _ => fun
  | [d1, d2, d3] => { results := [.lit (.bool true)], args := [d1, d2, d3] }
  | _ => none }
def storeFinalRow : OpenClaim := { program := "ytdefmgkicdhmkaa", sum := "463b4d28fbd6f9a06ff309d0b02f7dcda4deb58851c31352d045d62548c8e465", func := "psephos/psephoslaw14.StoreFinal", spec := "storeFinal", unfollowed := true, recurses := true, apart := false }
def StoreFinalSaid : Prop := storeFinalRow.holds Try.pinned (OpenSpec.ofChange storeFinalSpec)

/-- ITS FALSE NEIGHBOUR: 'it returns false'. Refute it at one input. -/
def storeFinalWrong : ChangeSpec := { name := "storeFinal", fn := fun _ => fun
  | [d1, d2, d3] => { results := [.lit (.bool false)], args := [d1, d2, d3] }
  | _ => none }
def StoreFinalWrongFalsely : Prop := storeFinalRow.holds Try.pinned (OpenSpec.ofChange storeFinalWrong)

/-- 'psephoslaw14.StoreLedgers': WHATEVER THE INPUT: true; the input reads as it did. -/
def storeLedgersSpec : ChangeSpec := { name := "storeLedgers", fn := fun _ => fun
  | [d1, d2, d3] => { results := [.lit (.bool true)], args := [d1, d2, d3] }
  | _ => none }
def storeLedgersRow : OpenClaim := { program := "ytdefmgkicdhmkaa", sum := "463b4d28fbd6f9a06ff309d0b02f7dcda4deb58851c31352d045d62548c8e465", func := "psephos/psephoslaw14.StoreLedgers", spec := "storeLedgers", unfollowed := true, recurses := true, apart := false }
def StoreLedgersSaid : Prop := storeLedgersRow.holds Try.pinned (OpenSpec.ofChange storeLedgersSpec)

/-- ITS FALSE NEIGHBOUR: 'it returns false'. Refute it at one input. -/
def storeLedgersWrong : ChangeSpec := { name := "storeLedgers", fn := fun _ => fun
  | [d1, d2, d3] => { results := [.lit (.bool false)], args := [d1, d2, d3] }
  | _ => none }
def StoreLedgersWrongFalsely : Prop := storeLedgersRow.holds Try.pinned (OpenSpec.ofChange storeLedgersWrong)

/- THE SECOND FORM. 'bulk': how many values and letters a reading holds, each counted each time it is reached (what is shared counts as often as it is met; a slice's spare places count too). A statement '..UptoSaid' is the law's where the arguments, and the package variables that the reading takes, are together of bulk at most 1048576: NARROWER than '..Said'. Prove '..Said' where nothing that the law and all that it calls make is longer than what came in: it says more and counts as full. Else prove '..UptoSaid'. A law counts once. -/
mutual
def uptoBulk {H : Type} : DataW H → Nat
  | .lit (.string bytes) => bytes.length + 1
  | .lit _ => 1
  | .nil => 1
  | .ptr d => uptoBulk d + 1
  | .slice elems spare => uptoBulkAll elems + uptoBulkAll spare + 1
  | .agg parts => uptoBulkAll parts + 1
  | .iface _ d => uptoBulk d + 1
  | .map entries => uptoBulkEntries entries + 1
  | .held _ => 1
def uptoBulkAll {H : Type} : List (DataW H) → Nat
  | [] => 0
  | d :: r => uptoBulk d + uptoBulkAll r
def uptoBulkEntries {H : Type} : List (Lit × DataW H) → Nat
  | [] => 0
  | x :: r => uptoBulkEntry x + uptoBulkEntries r
def uptoBulkEntry {H : Type} : Lit × DataW H → Nat
  | (.string bytes, d) => bytes.length + uptoBulk d + 1
  | (_, d) => uptoBulk d + 1
 end
def uptoSmall : (H : Type) → List (DataW H) → Bool := fun _ ds => decide (uptoBulkAll ds ≤ 1048576)
def OpenSpec.upto (s : _root_.Go.ChangeSpec) : _root_.Go.OpenSpec := { _root_.Go.OpenSpec.ofChange s with cond := some uptoSmall }

/-- 'psephoslaw14.StoreVotes', WHERE WHAT IT READS IS OF BULK AT MOST 1048576: true; the input reads as it did. -/
def storeVotesUptoRow : OpenClaim := { program := "ytdefmgkicdhmkaa", sum := "463b4d28fbd6f9a06ff309d0b02f7dcda4deb58851c31352d045d62548c8e465", func := "psephos/psephoslaw14.StoreVotes", spec := "storeVotes", unfollowed := true, recurses := true, apart := false, narrowed := true }
def StoreVotesUptoSaid : Prop := storeVotesUptoRow.holds Try.pinned (OpenSpec.upto storeVotesSpec)

/-- 'psephoslaw14.StoreTicks', WHERE WHAT IT READS IS OF BULK AT MOST 1048576: true; the input reads as it did. -/
def storeTicksUptoRow : OpenClaim := { program := "ytdefmgkicdhmkaa", sum := "463b4d28fbd6f9a06ff309d0b02f7dcda4deb58851c31352d045d62548c8e465", func := "psephos/psephoslaw14.StoreTicks", spec := "storeTicks", unfollowed := true, recurses := true, apart := false, narrowed := true }
def StoreTicksUptoSaid : Prop := storeTicksUptoRow.holds Try.pinned (OpenSpec.upto storeTicksSpec)

/-- 'psephoslaw14.StoreAdds', WHERE WHAT IT READS IS OF BULK AT MOST 1048576: true; the input reads as it did. -/
def storeAddsUptoRow : OpenClaim := { program := "ytdefmgkicdhmkaa", sum := "463b4d28fbd6f9a06ff309d0b02f7dcda4deb58851c31352d045d62548c8e465", func := "psephos/psephoslaw14.StoreAdds", spec := "storeAdds", unfollowed := true, recurses := true, apart := false, narrowed := true }
def StoreAddsUptoSaid : Prop := storeAddsUptoRow.holds Try.pinned (OpenSpec.upto storeAddsSpec)

/-- 'psephoslaw14.StoreFinal', WHERE WHAT IT READS IS OF BULK AT MOST 1048576: true; the input reads as it did. -/
def storeFinalUptoRow : OpenClaim := { program := "ytdefmgkicdhmkaa", sum := "463b4d28fbd6f9a06ff309d0b02f7dcda4deb58851c31352d045d62548c8e465", func := "psephos/psephoslaw14.StoreFinal", spec := "storeFinal", unfollowed := true, recurses := true, apart := false, narrowed := true }
def StoreFinalUptoSaid : Prop := storeFinalUptoRow.holds Try.pinned (OpenSpec.upto storeFinalSpec)

/-- 'psephoslaw14.StoreLedgers', WHERE WHAT IT READS IS OF BULK AT MOST 1048576: true; the input reads as it did. -/
def storeLedgersUptoRow : OpenClaim := { program := "ytdefmgkicdhmkaa", sum := "463b4d28fbd6f9a06ff309d0b02f7dcda4deb58851c31352d045d62548c8e465", func := "psephos/psephoslaw14.StoreLedgers", spec := "storeLedgers", unfollowed := true, recurses := true, apart := false, narrowed := true }
def StoreLedgersUptoSaid : Prop := storeLedgersUptoRow.holds Try.pinned (OpenSpec.upto storeLedgersSpec)

end Rows
end Go.Proofs.Ytdefmgkicdhmkaa
