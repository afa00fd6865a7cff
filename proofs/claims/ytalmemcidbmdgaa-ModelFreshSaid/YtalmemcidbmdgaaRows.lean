/-
  No cell of these rows narrows 'for every input' (looked for: loops, veiled, ifaces, maps, wideKeys, modest, calm, conditions, laid).
  DERIVED. THE GIVEN ROWS OF THIS SEAT. 7 by the template 'for every input the law returns true; each argument reads behind the call as it read before'; 0 by the template 'total and deterministic' (their statements: YtalmemcidbmdgaaTotals.lean).
  GIVEN WITH THE SEED: the statements are not yours to turn. If you find one false, say at which input.
  Laid BY PROGRAM, IN A SANDBOX (cutbox-rows.mjs): the forced cells as the released guide's own fill.sh prints them over the translation 83275b4feece02fe… (all of the seat's roots in one cut). By AI agents, Wed Nov 11 2026. No macro, syntax, notation, axiom, sorry.
-/
import Derived.Test.YtalmemcidbmdgaaChecked
import GoSem.Claim
import GoSem.ClaimJoined
import GoSem.ClaimMapViews
import Derived.JoinedTies
import Derived.KernelRfl
namespace Go.Proofs.Ytalmemcidbmdgaa
/- THE CELL 'sum', in the pinned program and in every row, IS THE sha256 OF THE DUMP (.gsa) THAT YtalmemcidbmdgaaProg.lean LOADS. Nothing in Lean hashes anything: it is a label: what it is worth is what the hold of that sum in a sandbox is worth. -/
noncomputable def Try.pinned : Pinned := { name := "ytalmemcidbmdgaa", sum := "83275b4feece02fec05fa16d3af0b859b8d3d16b420c748979d5051a824c36c2", checked := Try.checked }
namespace Rows
def none {H : Type} : Left H := { results := [], args := [] }

/-- 'lookasidelaw16.ModelShares': WHATEVER THE INPUT: true; the input reads as it did. -/
def modelSharesSpec : ChangeSpec := { name := "modelShares", fn := fun _ => fun
  | [d1, d2, d3, d4, d5] => { results := [.lit (.bool true)], args := [d1, d2, d3, d4, d5] }
  | _ => none }
def modelSharesRow : OpenClaim := { program := "ytalmemcidbmdgaa", sum := "83275b4feece02fec05fa16d3af0b859b8d3d16b420c748979d5051a824c36c2", func := "lookaside/lookasidelaw16.ModelShares", spec := "modelShares", unfollowed := true, recurses := true, plainKeys := false, apart := false }
def ModelSharesSaid : Prop := modelSharesRow.holds Try.pinned (OpenSpec.ofChange modelSharesSpec)

/-- ITS FALSE NEIGHBOUR: 'it returns false'. Refute it at one input. -/
def modelSharesWrong : ChangeSpec := { name := "modelShares", fn := fun _ => fun
  | [d1, d2, d3, d4, d5] => { results := [.lit (.bool false)], args := [d1, d2, d3, d4, d5] }
  | _ => none }
def ModelSharesWrongFalsely : Prop := modelSharesRow.holds Try.pinned (OpenSpec.ofChange modelSharesWrong)

/-- 'lookasidelaw16.ModelFresh': WHATEVER THE INPUT: true; the input reads as it did. -/
def modelFreshSpec : ChangeSpec := { name := "modelFresh", fn := fun _ => fun
  | [d1, d2, d3] => { results := [.lit (.bool true)], args := [d1, d2, d3] }
  | _ => none }
def modelFreshRow : OpenClaim := { program := "ytalmemcidbmdgaa", sum := "83275b4feece02fec05fa16d3af0b859b8d3d16b420c748979d5051a824c36c2", func := "lookaside/lookasidelaw16.ModelFresh", spec := "modelFresh", unfollowed := true, recurses := true, plainKeys := false, apart := false }
def ModelFreshSaid : Prop := modelFreshRow.holds Try.pinned (OpenSpec.ofChange modelFreshSpec)

/-- ITS FALSE NEIGHBOUR: 'it returns false'. Refute it at one input. -/
def modelFreshWrong : ChangeSpec := { name := "modelFresh", fn := fun _ => fun
  | [d1, d2, d3] => { results := [.lit (.bool false)], args := [d1, d2, d3] }
  | _ => none }
def ModelFreshWrongFalsely : Prop := modelFreshRow.holds Try.pinned (OpenSpec.ofChange modelFreshWrong)

/-- 'lookasidelaw16.ModelReads': WHATEVER THE INPUT: true; the input reads as it did. -/
def modelReadsSpec : ChangeSpec := { name := "modelReads", fn := fun _ => fun
  | [d1, d2, d3, d4, d5] => { results := [.lit (.bool true)], args := [d1, d2, d3, d4, d5] }
  | _ => none }
def modelReadsRow : OpenClaim := { program := "ytalmemcidbmdgaa", sum := "83275b4feece02fec05fa16d3af0b859b8d3d16b420c748979d5051a824c36c2", func := "lookaside/lookasidelaw16.ModelReads", spec := "modelReads", unfollowed := true, recurses := true, plainKeys := false, apart := false }
def ModelReadsSaid : Prop := modelReadsRow.holds Try.pinned (OpenSpec.ofChange modelReadsSpec)

/-- ITS FALSE NEIGHBOUR: 'it returns false'. Refute it at one input. -/
def modelReadsWrong : ChangeSpec := { name := "modelReads", fn := fun _ => fun
  | [d1, d2, d3, d4, d5] => { results := [.lit (.bool false)], args := [d1, d2, d3, d4, d5] }
  | _ => none }
def ModelReadsWrongFalsely : Prop := modelReadsRow.holds Try.pinned (OpenSpec.ofChange modelReadsWrong)

/-- 'lookasidelaw16.ModelGoes': WHATEVER THE INPUT: true; the input reads as it did. -/
def modelGoesSpec : ChangeSpec := { name := "modelGoes", fn := fun _ => fun
  | [d1, d2, d3] => { results := [.lit (.bool true)], args := [d1, d2, d3] }
  | _ => none }
def modelGoesRow : OpenClaim := { program := "ytalmemcidbmdgaa", sum := "83275b4feece02fec05fa16d3af0b859b8d3d16b420c748979d5051a824c36c2", func := "lookaside/lookasidelaw16.ModelGoes", spec := "modelGoes", unfollowed := true, recurses := true, plainKeys := false, apart := false }
def ModelGoesSaid : Prop := modelGoesRow.holds Try.pinned (OpenSpec.ofChange modelGoesSpec)

/-- ITS FALSE NEIGHBOUR: 'it returns false'. Refute it at one input. -/
def modelGoesWrong : ChangeSpec := { name := "modelGoes", fn := fun _ => fun
  | [d1, d2, d3] => { results := [.lit (.bool false)], args := [d1, d2, d3] }
  | _ => none }
def ModelGoesWrongFalsely : Prop := modelGoesRow.holds Try.pinned (OpenSpec.ofChange modelGoesWrong)

/-- 'lookasidelaw16.ModelRooms': WHATEVER THE INPUT: true; the input reads as it did. -/
def modelRoomsSpec : ChangeSpec := { name := "modelRooms", fn := fun _ => fun
  | [d] => { results := [.lit (.bool true)], args := [d] }
  | _ => none }
def modelRoomsRow : OpenClaim := { program := "ytalmemcidbmdgaa", sum := "83275b4feece02fec05fa16d3af0b859b8d3d16b420c748979d5051a824c36c2", func := "lookaside/lookasidelaw16.ModelRooms", spec := "modelRooms", unfollowed := true, recurses := true, plainKeys := false, apart := false }
def ModelRoomsSaid : Prop := modelRoomsRow.holds Try.pinned (OpenSpec.ofChange modelRoomsSpec)

/-- ITS FALSE NEIGHBOUR: 'it returns false'. Refute it at one input. -/
def modelRoomsWrong : ChangeSpec := { name := "modelRooms", fn := fun _ => fun
  | [d] => { results := [.lit (.bool false)], args := [d] }
  | _ => none }
def ModelRoomsWrongFalsely : Prop := modelRoomsRow.holds Try.pinned (OpenSpec.ofChange modelRoomsWrong)

/-- 'lookasidelaw21.StoryRooms': WHATEVER THE INPUT: true; the input reads as it did. -/
def storyRoomsSpec : ChangeSpec := { name := "storyRooms", fn := fun _ => fun
  | [d1, d2] => { results := [.lit (.bool true)], args := [d1, d2] }
  | _ => none }
def storyRoomsRow : OpenClaim := { program := "ytalmemcidbmdgaa", sum := "83275b4feece02fec05fa16d3af0b859b8d3d16b420c748979d5051a824c36c2", func := "lookaside/lookasidelaw21.StoryRooms", spec := "storyRooms", unfollowed := true, recurses := true, plainKeys := false, apart := false }
def StoryRoomsSaid : Prop := storyRoomsRow.holds Try.pinned (OpenSpec.ofChange storyRoomsSpec)

/-- ITS FALSE NEIGHBOUR: 'it returns false'. Refute it at one input. -/
def storyRoomsWrong : ChangeSpec := { name := "storyRooms", fn := fun _ => fun
  | [d1, d2] => { results := [.lit (.bool false)], args := [d1, d2] }
  | _ => none }
def StoryRoomsWrongFalsely : Prop := storyRoomsRow.holds Try.pinned (OpenSpec.ofChange storyRoomsWrong)

/-- 'lookasidelaw21.StoryAhead': WHATEVER THE INPUT: true; the input reads as it did. -/
def storyAheadSpec : ChangeSpec := { name := "storyAhead", fn := fun _ => fun
  | [d1, d2] => { results := [.lit (.bool true)], args := [d1, d2] }
  | _ => none }
def storyAheadRow : OpenClaim := { program := "ytalmemcidbmdgaa", sum := "83275b4feece02fec05fa16d3af0b859b8d3d16b420c748979d5051a824c36c2", func := "lookaside/lookasidelaw21.StoryAhead", spec := "storyAhead", unfollowed := true, recurses := true, plainKeys := false, apart := false }
def StoryAheadSaid : Prop := storyAheadRow.holds Try.pinned (OpenSpec.ofChange storyAheadSpec)

/-- ITS FALSE NEIGHBOUR: 'it returns false'. Refute it at one input. -/
def storyAheadWrong : ChangeSpec := { name := "storyAhead", fn := fun _ => fun
  | [d1, d2] => { results := [.lit (.bool false)], args := [d1, d2] }
  | _ => none }
def StoryAheadWrongFalsely : Prop := storyAheadRow.holds Try.pinned (OpenSpec.ofChange storyAheadWrong)

/- THE SECOND FORM. 'bulk': how many values and letters a reading holds, each counted each time it is reached (what is shared counts as often as it is met; a slice's spare places count too). A statement '..UptoSaid' is the law's where the arguments, and the package variables that the reading takes, are together of bulk at most 1048576: NARROWER than '..Said'. Prove '..Said' where nothing that the law and all that it calls make is longer than what came in: it says more and counts as full. Else prove '..UptoSaid'. A law counts once. -/
mutual
def uptoBulk {H : Type} : DataW H → Nat
  | .lit (.string bytes) => bytes.length + 1
  | .lit _ => 1
  | .nil => 1
  | .ptr d => uptoBulk d + 1
  | .slice elems spare => uptoBulkAll elems + uptoBulkAll spare + 1
  | .agg parts => uptoBulkAll parts + 1
  | .iface _ d => uptoBulk d + 1
  | .map entries => uptoBulkEntries entries + 1
  | .held _ => 1
def uptoBulkAll {H : Type} : List (DataW H) → Nat
  | [] => 0
  | d :: r => uptoBulk d + uptoBulkAll r
def uptoBulkEntries {H : Type} : List (Lit × DataW H) → Nat
  | [] => 0
  | x :: r => uptoBulkEntry x + uptoBulkEntries r
def uptoBulkEntry {H : Type} : Lit × DataW H → Nat
  | (.string bytes, d) => bytes.length + uptoBulk d + 1
  | (_, d) => uptoBulk d + 1
 end
def uptoSmall : (H : Type) → List (DataW H) → Bool := fun _ ds => decide (uptoBulkAll ds ≤ 1048576)
def OpenSpec.upto (s : _root_.Go.ChangeSpec) : _root_.Go.OpenSpec := { _root_.Go.OpenSpec.ofChange s with cond := some uptoSmall }

/-- 'lookasidelaw16.ModelShares', WHERE WHAT IT READS IS OF BULK AT MOST 1048576: true; the input reads as it did. -/
def modelSharesUptoRow : OpenClaim := { program := "ytalmemcidbmdgaa", sum := "83275b4feece02fec05fa16d3af0b859b8d3d16b420c748979d5051a824c36c2", func := "lookaside/lookasidelaw16.ModelShares", spec := "modelShares", unfollowed := true, recurses := true, plainKeys := false, apart := false, narrowed := true }
def ModelSharesUptoSaid : Prop := modelSharesUptoRow.holds Try.pinned (OpenSpec.upto modelSharesSpec)

/-- 'lookasidelaw16.ModelFresh', WHERE WHAT IT READS IS OF BULK AT MOST 1048576: true; the input reads as it did. -/
def modelFreshUptoRow : OpenClaim := { program := "ytalmemcidbmdgaa", sum := "83275b4feece02fec05fa16d3af0b859b8d3d16b420c748979d5051a824c36c2", func := "lookaside/lookasidelaw16.ModelFresh", spec := "modelFresh", unfollowed := true, recurses := true, plainKeys := false, apart := false, narrowed := true }
def ModelFreshUptoSaid : Prop := modelFreshUptoRow.holds Try.pinned (OpenSpec.upto modelFreshSpec)

/-- 'lookasidelaw16.ModelReads', WHERE WHAT IT READS IS OF BULK AT MOST 1048576: true; the input reads as it did. -/
def modelReadsUptoRow : OpenClaim := { program := "ytalmemcidbmdgaa", sum := "83275b4feece02fec05fa16d3af0b859b8d3d16b420c748979d5051a824c36c2", func := "lookaside/lookasidelaw16.ModelReads", spec := "modelReads", unfollowed := true, recurses := true, plainKeys := false, apart := false, narrowed := true }
def ModelReadsUptoSaid : Prop := modelReadsUptoRow.holds Try.pinned (OpenSpec.upto modelReadsSpec)

/-- 'lookasidelaw16.ModelGoes', WHERE WHAT IT READS IS OF BULK AT MOST 1048576: true; the input reads as it did. -/
def modelGoesUptoRow : OpenClaim := { program := "ytalmemcidbmdgaa", sum := "83275b4feece02fec05fa16d3af0b859b8d3d16b420c748979d5051a824c36c2", func := "lookaside/lookasidelaw16.ModelGoes", spec := "modelGoes", unfollowed := true, recurses := true, plainKeys := false, apart := false, narrowed := true }
def ModelGoesUptoSaid : Prop := modelGoesUptoRow.holds Try.pinned (OpenSpec.upto modelGoesSpec)

/-- 'lookasidelaw16.ModelRooms', WHERE WHAT IT READS IS OF BULK AT MOST 1048576: true; the input reads as it did. -/
def modelRoomsUptoRow : OpenClaim := { program := "ytalmemcidbmdgaa", sum := "83275b4feece02fec05fa16d3af0b859b8d3d16b420c748979d5051a824c36c2", func := "lookaside/lookasidelaw16.ModelRooms", spec := "modelRooms", unfollowed := true, recurses := true, plainKeys := false, apart := false, narrowed := true }
def ModelRoomsUptoSaid : Prop := modelRoomsUptoRow.holds Try.pinned (OpenSpec.upto modelRoomsSpec)

/-- 'lookasidelaw21.StoryRooms', WHERE WHAT IT READS IS OF BULK AT MOST 1048576: true; the input reads as it did. -/
def storyRoomsUptoRow : OpenClaim := { program := "ytalmemcidbmdgaa", sum := "83275b4feece02fec05fa16d3af0b859b8d3d16b420c748979d5051a824c36c2", func := "lookaside/lookasidelaw21.StoryRooms", spec := "storyRooms", unfollowed := true, recurses := true, plainKeys := false, apart := false, narrowed := true }
def StoryRoomsUptoSaid : Prop := storyRoomsUptoRow.holds Try.pinned (OpenSpec.upto storyRoomsSpec)

/-- 'lookasidelaw21.StoryAhead', WHERE WHAT IT READS IS OF BULK AT MOST 1048576: true; the input reads as it did. -/
def storyAheadUptoRow : OpenClaim := { program := "ytalmemcidbmdgaa", sum := "83275b4feece02fec05fa16d3af0b859b8d3d16b420c748979d5051a824c36c2", func := "lookaside/lookasidelaw21.StoryAhead", spec := "storyAhead", unfollowed := true, recurses := true, plainKeys := false, apart := false, narrowed := true }
def StoryAheadUptoSaid : Prop := storyAheadUptoRow.holds Try.pinned (OpenSpec.upto storyAheadSpec)

end Rows
end Go.Proofs.Ytalmemcidbmdgaa
