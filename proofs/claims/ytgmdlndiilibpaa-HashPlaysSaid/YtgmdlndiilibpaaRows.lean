/-
  No cell of these rows narrows 'for every input' (looked for: loops, veiled, ifaces, maps, wideKeys, modest, calm, conditions, laid).
  DERIVED. THE GIVEN ROWS OF THIS SEAT. 11 by the template 'for every input the law returns true; each argument reads behind the call as it read before'; 0 by the template 'total and deterministic' (their statements: YtgmdlndiilibpaaTotals.lean).
  GIVEN WITH THE SEED: the statements are not yours to turn. If you find one false, say at which input.
  Laid BY PROGRAM, IN A SANDBOX (cutbox-rows.mjs): the forced cells as the released guide's own fill.sh prints them over the translation b2b2a3b2d0d803db… (all of the seat's roots in one cut). By AI agents, Wed Nov 11 2026. No macro, syntax, notation, axiom, sorry.
-/
import Derived.Test.YtgmdlndiilibpaaChecked
import GoSem.Claim
import GoSem.ClaimJoined
import GoSem.ClaimMapViews
import Derived.JoinedTies
import Derived.KernelRfl
namespace Go.Proofs.Ytgmdlndiilibpaa
/- THE CELL 'sum', in the pinned program and in every row, IS THE sha256 OF THE DUMP (.gsa) THAT YtgmdlndiilibpaaProg.lean LOADS. Nothing in Lean hashes anything: it is a label: what it is worth is what the hold of that sum in a sandbox is worth. -/
noncomputable def Try.pinned : Pinned := { name := "ytgmdlndiilibpaa", sum := "b2b2a3b2d0d803db021c51304d9e2decb8679833e78ee0f9b0dedfbf758d174f", checked := Try.checked }
namespace Rows
def none {H : Type} : Left H := { results := [], args := [] }

/-- 'lookasidelaw11.HashChains': WHATEVER THE INPUT: true; the input reads as it did. -/
def hashChainsSpec : ChangeSpec := { name := "hashChains", fn := fun _ => fun
  | [d1, d2] => { results := [.lit (.bool true)], args := [d1, d2] }
  | _ => none }
def hashChainsRow : OpenClaim := { program := "ytgmdlndiilibpaa", sum := "b2b2a3b2d0d803db021c51304d9e2decb8679833e78ee0f9b0dedfbf758d174f", func := "lookaside/lookasidelaw11.HashChains", spec := "hashChains", apart := false }
def HashChainsSaid : Prop := hashChainsRow.holds Try.pinned (OpenSpec.ofChange hashChainsSpec)

/-- ITS FALSE NEIGHBOUR: 'it returns false'. Refute it at one input. -/
def hashChainsWrong : ChangeSpec := { name := "hashChains", fn := fun _ => fun
  | [d1, d2] => { results := [.lit (.bool false)], args := [d1, d2] }
  | _ => none }
def HashChainsWrongFalsely : Prop := hashChainsRow.holds Try.pinned (OpenSpec.ofChange hashChainsWrong)

/-- 'lookasidelaw15.CallNone': WHATEVER THE INPUT: true; the input reads as it did. -/
def callNoneSpec : ChangeSpec := { name := "callNone", fn := fun _ => fun
  | [d1, d2] => { results := [.lit (.bool true)], args := [d1, d2] }
  | _ => none }
def callNoneRow : OpenClaim := { program := "ytgmdlndiilibpaa", sum := "b2b2a3b2d0d803db021c51304d9e2decb8679833e78ee0f9b0dedfbf758d174f", func := "lookaside/lookasidelaw15.CallNone", spec := "callNone", unfollowed := true, recurses := true, apart := false }
def CallNoneSaid : Prop := callNoneRow.holds Try.pinned (OpenSpec.ofChange callNoneSpec)

/-- ITS FALSE NEIGHBOUR: 'it returns false'. Refute it at one input. -/
def callNoneWrong : ChangeSpec := { name := "callNone", fn := fun _ => fun
  | [d1, d2] => { results := [.lit (.bool false)], args := [d1, d2] }
  | _ => none }
def CallNoneWrongFalsely : Prop := callNoneRow.holds Try.pinned (OpenSpec.ofChange callNoneWrong)

/-- 'lookasidelaw15.CallLeft': WHATEVER THE INPUT: true; the input reads as it did. -/
def callLeftSpec : ChangeSpec := { name := "callLeft", fn := fun _ => fun
  | [d1, d2] => { results := [.lit (.bool true)], args := [d1, d2] }
  | _ => none }
def callLeftRow : OpenClaim := { program := "ytgmdlndiilibpaa", sum := "b2b2a3b2d0d803db021c51304d9e2decb8679833e78ee0f9b0dedfbf758d174f", func := "lookaside/lookasidelaw15.CallLeft", spec := "callLeft", unfollowed := true, recurses := true, apart := false }
def CallLeftSaid : Prop := callLeftRow.holds Try.pinned (OpenSpec.ofChange callLeftSpec)

/-- ITS FALSE NEIGHBOUR: 'it returns false'. Refute it at one input. -/
def callLeftWrong : ChangeSpec := { name := "callLeft", fn := fun _ => fun
  | [d1, d2] => { results := [.lit (.bool false)], args := [d1, d2] }
  | _ => none }
def CallLeftWrongFalsely : Prop := callLeftRow.holds Try.pinned (OpenSpec.ofChange callLeftWrong)

/-- 'lookasidelaw15.CallPeeks': WHATEVER THE INPUT: true; the input reads as it did. -/
def callPeeksSpec : ChangeSpec := { name := "callPeeks", fn := fun _ => fun
  | [d] => { results := [.lit (.bool true)], args := [d] }
  | _ => none }
def callPeeksRow : OpenClaim := { program := "ytgmdlndiilibpaa", sum := "b2b2a3b2d0d803db021c51304d9e2decb8679833e78ee0f9b0dedfbf758d174f", func := "lookaside/lookasidelaw15.CallPeeks", spec := "callPeeks", unfollowed := true, recurses := true, apart := false }
def CallPeeksSaid : Prop := callPeeksRow.holds Try.pinned (OpenSpec.ofChange callPeeksSpec)

/-- ITS FALSE NEIGHBOUR: 'it returns false'. Refute it at one input. -/
def callPeeksWrong : ChangeSpec := { name := "callPeeks", fn := fun _ => fun
  | [d] => { results := [.lit (.bool false)], args := [d] }
  | _ => none }
def CallPeeksWrongFalsely : Prop := callPeeksRow.holds Try.pinned (OpenSpec.ofChange callPeeksWrong)

/-- 'lookasidelaw11.HashCuts': WHATEVER THE INPUT: true; the input reads as it did. -/
def hashCutsSpec : ChangeSpec := { name := "hashCuts", fn := fun _ => fun
  | [d1, d2, d3] => { results := [.lit (.bool true)], args := [d1, d2, d3] }
  | _ => none }
def hashCutsRow : OpenClaim := { program := "ytgmdlndiilibpaa", sum := "b2b2a3b2d0d803db021c51304d9e2decb8679833e78ee0f9b0dedfbf758d174f", func := "lookaside/lookasidelaw11.HashCuts", spec := "hashCuts", apart := false }
def HashCutsSaid : Prop := hashCutsRow.holds Try.pinned (OpenSpec.ofChange hashCutsSpec)

/-- ITS FALSE NEIGHBOUR: 'it returns false'. Refute it at one input. -/
def hashCutsWrong : ChangeSpec := { name := "hashCuts", fn := fun _ => fun
  | [d1, d2, d3] => { results := [.lit (.bool false)], args := [d1, d2, d3] }
  | _ => none }
def HashCutsWrongFalsely : Prop := hashCutsRow.holds Try.pinned (OpenSpec.ofChange hashCutsWrong)

/-- 'lookasidelaw11.HashRows': WHATEVER THE INPUT: true; the input reads as it did. -/
def hashRowsSpec : ChangeSpec := { name := "hashRows", fn := fun _ => fun
  | [d1, d2] => { results := [.lit (.bool true)], args := [d1, d2] }
  | _ => none }
def hashRowsRow : OpenClaim := { program := "ytgmdlndiilibpaa", sum := "b2b2a3b2d0d803db021c51304d9e2decb8679833e78ee0f9b0dedfbf758d174f", func := "lookaside/lookasidelaw11.HashRows", spec := "hashRows", apart := false }
def HashRowsSaid : Prop := hashRowsRow.holds Try.pinned (OpenSpec.ofChange hashRowsSpec)

/-- ITS FALSE NEIGHBOUR: 'it returns false'. Refute it at one input. -/
def hashRowsWrong : ChangeSpec := { name := "hashRows", fn := fun _ => fun
  | [d1, d2] => { results := [.lit (.bool false)], args := [d1, d2] }
  | _ => none }
def HashRowsWrongFalsely : Prop := hashRowsRow.holds Try.pinned (OpenSpec.ofChange hashRowsWrong)

/-- 'lookasidelaw11.HashAll': WHATEVER THE INPUT: true; the input reads as it did. -/
def hashAllSpec : ChangeSpec := { name := "hashAll", fn := fun _ => fun
  | [d1, d2, d3] => { results := [.lit (.bool true)], args := [d1, d2, d3] }
  | _ => none }
def hashAllRow : OpenClaim := { program := "ytgmdlndiilibpaa", sum := "b2b2a3b2d0d803db021c51304d9e2decb8679833e78ee0f9b0dedfbf758d174f", func := "lookaside/lookasidelaw11.HashAll", spec := "hashAll", unfollowed := true, recurses := true, apart := false }
def HashAllSaid : Prop := hashAllRow.holds Try.pinned (OpenSpec.ofChange hashAllSpec)

/-- ITS FALSE NEIGHBOUR: 'it returns false'. Refute it at one input. -/
def hashAllWrong : ChangeSpec := { name := "hashAll", fn := fun _ => fun
  | [d1, d2, d3] => { results := [.lit (.bool false)], args := [d1, d2, d3] }
  | _ => none }
def HashAllWrongFalsely : Prop := hashAllRow.holds Try.pinned (OpenSpec.ofChange hashAllWrong)

/-- 'lookasidelaw15.CallPlays': WHATEVER THE INPUT: true; the input reads as it did. -/
def callPlaysSpec : ChangeSpec := { name := "callPlays", fn := fun _ => fun
  | [d1, d2] => { results := [.lit (.bool true)], args := [d1, d2] }
  | _ => none }
def callPlaysRow : OpenClaim := { program := "ytgmdlndiilibpaa", sum := "b2b2a3b2d0d803db021c51304d9e2decb8679833e78ee0f9b0dedfbf758d174f", func := "lookaside/lookasidelaw15.CallPlays", spec := "callPlays", unfollowed := true, recurses := true, apart := false }
def CallPlaysSaid : Prop := callPlaysRow.holds Try.pinned (OpenSpec.ofChange callPlaysSpec)

/-- ITS FALSE NEIGHBOUR: 'it returns false'. Refute it at one input. -/
def callPlaysWrong : ChangeSpec := { name := "callPlays", fn := fun _ => fun
  | [d1, d2] => { results := [.lit (.bool false)], args := [d1, d2] }
  | _ => none }
def CallPlaysWrongFalsely : Prop := callPlaysRow.holds Try.pinned (OpenSpec.ofChange callPlaysWrong)

/-- 'lookasidelaw15.CallRows': WHATEVER THE INPUT: true; the input reads as it did. -/
def callRowsSpec : ChangeSpec := { name := "callRows", fn := fun _ => fun
  | [d1, d2] => { results := [.lit (.bool true)], args := [d1, d2] }
  | _ => none }
def callRowsRow : OpenClaim := { program := "ytgmdlndiilibpaa", sum := "b2b2a3b2d0d803db021c51304d9e2decb8679833e78ee0f9b0dedfbf758d174f", func := "lookaside/lookasidelaw15.CallRows", spec := "callRows", unfollowed := true, recurses := true, apart := false }
def CallRowsSaid : Prop := callRowsRow.holds Try.pinned (OpenSpec.ofChange callRowsSpec)

/-- ITS FALSE NEIGHBOUR: 'it returns false'. Refute it at one input. -/
def callRowsWrong : ChangeSpec := { name := "callRows", fn := fun _ => fun
  | [d1, d2] => { results := [.lit (.bool false)], args := [d1, d2] }
  | _ => none }
def CallRowsWrongFalsely : Prop := callRowsRow.holds Try.pinned (OpenSpec.ofChange callRowsWrong)

/-- 'lookasidelaw11.HashSizes': WHATEVER THE INPUT: true; the input reads as it did. -/
def hashSizesSpec : ChangeSpec := { name := "hashSizes", fn := fun _ => fun
  | [d1, d2, d3] => { results := [.lit (.bool true)], args := [d1, d2, d3] }
  | _ => none }
def hashSizesRow : OpenClaim := { program := "ytgmdlndiilibpaa", sum := "b2b2a3b2d0d803db021c51304d9e2decb8679833e78ee0f9b0dedfbf758d174f", func := "lookaside/lookasidelaw11.HashSizes", spec := "hashSizes", unfollowed := true, recurses := true, apart := false }
def HashSizesSaid : Prop := hashSizesRow.holds Try.pinned (OpenSpec.ofChange hashSizesSpec)

/-- ITS FALSE NEIGHBOUR: 'it returns false'. Refute it at one input. -/
def hashSizesWrong : ChangeSpec := { name := "hashSizes", fn := fun _ => fun
  | [d1, d2, d3] => { results := [.lit (.bool false)], args := [d1, d2, d3] }
  | _ => none }
def HashSizesWrongFalsely : Prop := hashSizesRow.holds Try.pinned (OpenSpec.ofChange hashSizesWrong)

/-- 'lookasidelaw11.HashPlays': WHATEVER THE INPUT: true; the input reads as it did. -/
def hashPlaysSpec : ChangeSpec := { name := "hashPlays", fn := fun _ => fun
  | [d1, d2, d3] => { results := [.lit (.bool true)], args := [d1, d2, d3] }
  | _ => none }
def hashPlaysRow : OpenClaim := { program := "ytgmdlndiilibpaa", sum := "b2b2a3b2d0d803db021c51304d9e2decb8679833e78ee0f9b0dedfbf758d174f", func := "lookaside/lookasidelaw11.HashPlays", spec := "hashPlays", unfollowed := true, recurses := true, apart := false }
def HashPlaysSaid : Prop := hashPlaysRow.holds Try.pinned (OpenSpec.ofChange hashPlaysSpec)

/-- ITS FALSE NEIGHBOUR: 'it returns false'. Refute it at one input. -/
def hashPlaysWrong : ChangeSpec := { name := "hashPlays", fn := fun _ => fun
  | [d1, d2, d3] => { results := [.lit (.bool false)], args := [d1, d2, d3] }
  | _ => none }
def HashPlaysWrongFalsely : Prop := hashPlaysRow.holds Try.pinned (OpenSpec.ofChange hashPlaysWrong)

/- THE SECOND FORM. 'bulk': how many values and letters a reading holds, each counted each time it is reached (what is shared counts as often as it is met; a slice's spare places count too). A statement '..UptoSaid' is the law's where the arguments, and the package variables that the reading takes, are together of bulk at most 1048576: NARROWER than '..Said'. Prove '..Said' where nothing that the law and all that it calls make is longer than what came in: it says more and counts as full. Else prove '..UptoSaid'. A law counts once. -/
mutual
def uptoBulk {H : Type} : DataW H → Nat
  | .lit (.string bytes) => bytes.length + 1
  | .lit _ => 1
  | .nil => 1
  | .ptr d => uptoBulk d + 1
  | .slice elems spare => uptoBulkAll elems + uptoBulkAll spare + 1
  | .agg parts => uptoBulkAll parts + 1
  | .iface _ d => uptoBulk d + 1
  | .map entries => uptoBulkEntries entries + 1
  | .held _ => 1
def uptoBulkAll {H : Type} : List (DataW H) → Nat
  | [] => 0
  | d :: r => uptoBulk d + uptoBulkAll r
def uptoBulkEntries {H : Type} : List (Lit × DataW H) → Nat
  | [] => 0
  | x :: r => uptoBulkEntry x + uptoBulkEntries r
def uptoBulkEntry {H : Type} : Lit × DataW H → Nat
  | (.string bytes, d) => bytes.length + uptoBulk d + 1
  | (_, d) => uptoBulk d + 1
 end
def uptoSmall : (H : Type) → List (DataW H) → Bool := fun _ ds => decide (uptoBulkAll ds ≤ 1048576)
def OpenSpec.upto (s : _root_.Go.ChangeSpec) : _root_.Go.OpenSpec := { _root_.Go.OpenSpec.ofChange s with cond := some uptoSmall }

/-- 'lookasidelaw11.HashChains', WHERE WHAT IT READS IS OF BULK AT MOST 1048576: true; the input reads as it did. -/
def hashChainsUptoRow : OpenClaim := { program := "ytgmdlndiilibpaa", sum := "b2b2a3b2d0d803db021c51304d9e2decb8679833e78ee0f9b0dedfbf758d174f", func := "lookaside/lookasidelaw11.HashChains", spec := "hashChains", apart := false, narrowed := true }
def HashChainsUptoSaid : Prop := hashChainsUptoRow.holds Try.pinned (OpenSpec.upto hashChainsSpec)

/-- 'lookasidelaw15.CallNone', WHERE WHAT IT READS IS OF BULK AT MOST 1048576: true; the input reads as it did. -/
def callNoneUptoRow : OpenClaim := { program := "ytgmdlndiilibpaa", sum := "b2b2a3b2d0d803db021c51304d9e2decb8679833e78ee0f9b0dedfbf758d174f", func := "lookaside/lookasidelaw15.CallNone", spec := "callNone", unfollowed := true, recurses := true, apart := false, narrowed := true }
def CallNoneUptoSaid : Prop := callNoneUptoRow.holds Try.pinned (OpenSpec.upto callNoneSpec)

/-- 'lookasidelaw15.CallLeft', WHERE WHAT IT READS IS OF BULK AT MOST 1048576: true; the input reads as it did. -/
def callLeftUptoRow : OpenClaim := { program := "ytgmdlndiilibpaa", sum := "b2b2a3b2d0d803db021c51304d9e2decb8679833e78ee0f9b0dedfbf758d174f", func := "lookaside/lookasidelaw15.CallLeft", spec := "callLeft", unfollowed := true, recurses := true, apart := false, narrowed := true }
def CallLeftUptoSaid : Prop := callLeftUptoRow.holds Try.pinned (OpenSpec.upto callLeftSpec)

/-- 'lookasidelaw15.CallPeeks', WHERE WHAT IT READS IS OF BULK AT MOST 1048576: true; the input reads as it did. -/
def callPeeksUptoRow : OpenClaim := { program := "ytgmdlndiilibpaa", sum := "b2b2a3b2d0d803db021c51304d9e2decb8679833e78ee0f9b0dedfbf758d174f", func := "lookaside/lookasidelaw15.CallPeeks", spec := "callPeeks", unfollowed := true, recurses := true, apart := false, narrowed := true }
def CallPeeksUptoSaid : Prop := callPeeksUptoRow.holds Try.pinned (OpenSpec.upto callPeeksSpec)

/-- 'lookasidelaw11.HashCuts', WHERE WHAT IT READS IS OF BULK AT MOST 1048576: true; the input reads as it did. -/
def hashCutsUptoRow : OpenClaim := { program := "ytgmdlndiilibpaa", sum := "b2b2a3b2d0d803db021c51304d9e2decb8679833e78ee0f9b0dedfbf758d174f", func := "lookaside/lookasidelaw11.HashCuts", spec := "hashCuts", apart := false, narrowed := true }
def HashCutsUptoSaid : Prop := hashCutsUptoRow.holds Try.pinned (OpenSpec.upto hashCutsSpec)

/-- 'lookasidelaw11.HashRows', WHERE WHAT IT READS IS OF BULK AT MOST 1048576: true; the input reads as it did. -/
def hashRowsUptoRow : OpenClaim := { program := "ytgmdlndiilibpaa", sum := "b2b2a3b2d0d803db021c51304d9e2decb8679833e78ee0f9b0dedfbf758d174f", func := "lookaside/lookasidelaw11.HashRows", spec := "hashRows", apart := false, narrowed := true }
def HashRowsUptoSaid : Prop := hashRowsUptoRow.holds Try.pinned (OpenSpec.upto hashRowsSpec)

/-- 'lookasidelaw11.HashAll', WHERE WHAT IT READS IS OF BULK AT MOST 1048576: true; the input reads as it did. -/
def hashAllUptoRow : OpenClaim := { program := "ytgmdlndiilibpaa", sum := "b2b2a3b2d0d803db021c51304d9e2decb8679833e78ee0f9b0dedfbf758d174f", func := "lookaside/lookasidelaw11.HashAll", spec := "hashAll", unfollowed := true, recurses := true, apart := false, narrowed := true }
def HashAllUptoSaid : Prop := hashAllUptoRow.holds Try.pinned (OpenSpec.upto hashAllSpec)

/-- 'lookasidelaw15.CallPlays', WHERE WHAT IT READS IS OF BULK AT MOST 1048576: true; the input reads as it did. -/
def callPlaysUptoRow : OpenClaim := { program := "ytgmdlndiilibpaa", sum := "b2b2a3b2d0d803db021c51304d9e2decb8679833e78ee0f9b0dedfbf758d174f", func := "lookaside/lookasidelaw15.CallPlays", spec := "callPlays", unfollowed := true, recurses := true, apart := false, narrowed := true }
def CallPlaysUptoSaid : Prop := callPlaysUptoRow.holds Try.pinned (OpenSpec.upto callPlaysSpec)

/-- 'lookasidelaw15.CallRows', WHERE WHAT IT READS IS OF BULK AT MOST 1048576: true; the input reads as it did. -/
def callRowsUptoRow : OpenClaim := { program := "ytgmdlndiilibpaa", sum := "b2b2a3b2d0d803db021c51304d9e2decb8679833e78ee0f9b0dedfbf758d174f", func := "lookaside/lookasidelaw15.CallRows", spec := "callRows", unfollowed := true, recurses := true, apart := false, narrowed := true }
def CallRowsUptoSaid : Prop := callRowsUptoRow.holds Try.pinned (OpenSpec.upto callRowsSpec)

/-- 'lookasidelaw11.HashSizes', WHERE WHAT IT READS IS OF BULK AT MOST 1048576: true; the input reads as it did. -/
def hashSizesUptoRow : OpenClaim := { program := "ytgmdlndiilibpaa", sum := "b2b2a3b2d0d803db021c51304d9e2decb8679833e78ee0f9b0dedfbf758d174f", func := "lookaside/lookasidelaw11.HashSizes", spec := "hashSizes", unfollowed := true, recurses := true, apart := false, narrowed := true }
def HashSizesUptoSaid : Prop := hashSizesUptoRow.holds Try.pinned (OpenSpec.upto hashSizesSpec)

/-- 'lookasidelaw11.HashPlays', WHERE WHAT IT READS IS OF BULK AT MOST 1048576: true; the input reads as it did. -/
def hashPlaysUptoRow : OpenClaim := { program := "ytgmdlndiilibpaa", sum := "b2b2a3b2d0d803db021c51304d9e2decb8679833e78ee0f9b0dedfbf758d174f", func := "lookaside/lookasidelaw11.HashPlays", spec := "hashPlays", unfollowed := true, recurses := true, apart := false, narrowed := true }
def HashPlaysUptoSaid : Prop := hashPlaysUptoRow.holds Try.pinned (OpenSpec.upto hashPlaysSpec)

end Rows
end Go.Proofs.Ytgmdlndiilibpaa
