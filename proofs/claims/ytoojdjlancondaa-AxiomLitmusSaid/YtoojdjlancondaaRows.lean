/-
  No cell of these rows narrows 'for every input' (looked for: loops, veiled, ifaces, maps, wideKeys, modest, calm, conditions, laid).
  DERIVED. THE GIVEN ROWS OF THIS SEAT. 7 by the template 'for every input the law returns true; each argument reads behind the call as it read before'; 0 by the template 'total and deterministic' (their statements: YtoojdjlancondaaTotals.lean).
  GIVEN WITH THE SEED: the statements are not yours to turn. If you find one false, say at which input.
  Laid BY PROGRAM, IN A SANDBOX (cutbox-rows.mjs): the forced cells as the released guide's own fill.sh prints them over the translation 0f2f69229c772c51… (all of the seat's roots in one cut). By AI agents, Wed Nov 11 2026. No macro, syntax, notation, axiom, sorry.
-/
import Derived.Test.YtoojdjlancondaaChecked
import GoSem.Claim
import GoSem.ClaimJoined
import GoSem.ClaimMapViews
import Derived.JoinedTies
import Derived.KernelRfl
namespace Go.Proofs.Ytoojdjlancondaa
/- THE CELL 'sum', in the pinned program and in every row, IS THE sha256 OF THE DUMP (.gsa) THAT YtoojdjlancondaaProg.lean LOADS. Nothing in Lean hashes anything: it is a label: what it is worth is what the hold of that sum in a sandbox is worth. -/
noncomputable def Try.pinned : Pinned := { name := "ytoojdjlancondaa", sum := "0f2f69229c772c51156ec470fa4766f7e992688d9508248fb7dd611a39f6ee92", checked := Try.checked }
namespace Rows
def none {H : Type} : Left H := { results := [], args := [] }

/-- 'warpwrightlaw31.AxiomMatchesReference': WHATEVER THE INPUT: true; the input reads as it did. -/
def axiomMatchesReferenceSpec : ChangeSpec := { name := "axiomMatchesReference", fn := fun _ => fun
  | [d1, d2, d3] => { results := [.lit (.bool true)], args := [d1, d2, d3] }
  | _ => none }
def axiomMatchesReferenceRow : OpenClaim := { program := "ytoojdjlancondaa", sum := "0f2f69229c772c51156ec470fa4766f7e992688d9508248fb7dd611a39f6ee92", func := "warpwright/warpwrightlaw31.AxiomMatchesReference", spec := "axiomMatchesReference", unfollowed := true, recurses := true, apart := false }
def AxiomMatchesReferenceSaid : Prop := axiomMatchesReferenceRow.holds Try.pinned (OpenSpec.ofChange axiomMatchesReferenceSpec)

/-- ITS FALSE NEIGHBOUR: 'it returns false'. Refute it at one input. -/
def axiomMatchesReferenceWrong : ChangeSpec := { name := "axiomMatchesReference", fn := fun _ => fun
  | [d1, d2, d3] => { results := [.lit (.bool false)], args := [d1, d2, d3] }
  | _ => none }
def AxiomMatchesReferenceWrongFalsely : Prop := axiomMatchesReferenceRow.holds Try.pinned (OpenSpec.ofChange axiomMatchesReferenceWrong)

/-- 'warpwrightlaw31.AxiomSequential': WHATEVER THE INPUT: true; the input reads as it did. -/
def axiomSequentialSpec : ChangeSpec := { name := "axiomSequential", fn := fun _ => fun
  | [d1, d2] => { results := [.lit (.bool true)], args := [d1, d2] }
  | _ => none }
def axiomSequentialRow : OpenClaim := { program := "ytoojdjlancondaa", sum := "0f2f69229c772c51156ec470fa4766f7e992688d9508248fb7dd611a39f6ee92", func := "warpwright/warpwrightlaw31.AxiomSequential", spec := "axiomSequential", unfollowed := true, recurses := true, apart := false }
def AxiomSequentialSaid : Prop := axiomSequentialRow.holds Try.pinned (OpenSpec.ofChange axiomSequentialSpec)

/-- ITS FALSE NEIGHBOUR: 'it returns false'. Refute it at one input. -/
def axiomSequentialWrong : ChangeSpec := { name := "axiomSequential", fn := fun _ => fun
  | [d1, d2] => { results := [.lit (.bool false)], args := [d1, d2] }
  | _ => none }
def AxiomSequentialWrongFalsely : Prop := axiomSequentialRow.holds Try.pinned (OpenSpec.ofChange axiomSequentialWrong)

/-- 'warpwrightlaw31.AxiomCoherence': WHATEVER THE INPUT: true; the input reads as it did. -/
def axiomCoherenceSpec : ChangeSpec := { name := "axiomCoherence", fn := fun _ => fun
  | [d1, d2] => { results := [.lit (.bool true)], args := [d1, d2] }
  | _ => none }
def axiomCoherenceRow : OpenClaim := { program := "ytoojdjlancondaa", sum := "0f2f69229c772c51156ec470fa4766f7e992688d9508248fb7dd611a39f6ee92", func := "warpwright/warpwrightlaw31.AxiomCoherence", spec := "axiomCoherence", unfollowed := true, recurses := true, apart := false }
def AxiomCoherenceSaid : Prop := axiomCoherenceRow.holds Try.pinned (OpenSpec.ofChange axiomCoherenceSpec)

/-- ITS FALSE NEIGHBOUR: 'it returns false'. Refute it at one input. -/
def axiomCoherenceWrong : ChangeSpec := { name := "axiomCoherence", fn := fun _ => fun
  | [d1, d2] => { results := [.lit (.bool false)], args := [d1, d2] }
  | _ => none }
def AxiomCoherenceWrongFalsely : Prop := axiomCoherenceRow.holds Try.pinned (OpenSpec.ofChange axiomCoherenceWrong)

/-- 'warpwrightlaw31.AxiomAdds': WHATEVER THE INPUT: true; the input reads as it did. -/
def axiomAddsSpec : ChangeSpec := { name := "axiomAdds", fn := fun _ => fun
  | [d1, d2] => { results := [.lit (.bool true)], args := [d1, d2] }
  | _ => none }
def axiomAddsRow : OpenClaim := { program := "ytoojdjlancondaa", sum := "0f2f69229c772c51156ec470fa4766f7e992688d9508248fb7dd611a39f6ee92", func := "warpwright/warpwrightlaw31.AxiomAdds", spec := "axiomAdds", unfollowed := true, recurses := true, apart := false }
def AxiomAddsSaid : Prop := axiomAddsRow.holds Try.pinned (OpenSpec.ofChange axiomAddsSpec)

/-- ITS FALSE NEIGHBOUR: 'it returns false'. Refute it at one input. -/
def axiomAddsWrong : ChangeSpec := { name := "axiomAdds", fn := fun _ => fun
  | [d1, d2] => { results := [.lit (.bool false)], args := [d1, d2] }
  | _ => none }
def AxiomAddsWrongFalsely : Prop := axiomAddsRow.holds Try.pinned (OpenSpec.ofChange axiomAddsWrong)

/-- 'warpwrightlaw31.AxiomFences': WHATEVER THE INPUT: true; the input reads as it did. -/
def axiomFencesSpec : ChangeSpec := { name := "axiomFences", fn := fun _ => fun
  | [d1, d2, d3] => { results := [.lit (.bool true)], args := [d1, d2, d3] }
  | _ => none }
def axiomFencesRow : OpenClaim := { program := "ytoojdjlancondaa", sum := "0f2f69229c772c51156ec470fa4766f7e992688d9508248fb7dd611a39f6ee92", func := "warpwright/warpwrightlaw31.AxiomFences", spec := "axiomFences", unfollowed := true, recurses := true, apart := false }
def AxiomFencesSaid : Prop := axiomFencesRow.holds Try.pinned (OpenSpec.ofChange axiomFencesSpec)

/-- ITS FALSE NEIGHBOUR: 'it returns false'. Refute it at one input. -/
def axiomFencesWrong : ChangeSpec := { name := "axiomFences", fn := fun _ => fun
  | [d1, d2, d3] => { results := [.lit (.bool false)], args := [d1, d2, d3] }
  | _ => none }
def AxiomFencesWrongFalsely : Prop := axiomFencesRow.holds Try.pinned (OpenSpec.ofChange axiomFencesWrong)

/-- 'warpwrightlaw31.AxiomRenames': WHATEVER THE INPUT: true; the input reads as it did. -/
def axiomRenamesSpec : ChangeSpec := { name := "axiomRenames", fn := fun _ => fun
  | [d1, d2, d3] => { results := [.lit (.bool true)], args := [d1, d2, d3] }
  | _ => none }
def axiomRenamesRow : OpenClaim := { program := "ytoojdjlancondaa", sum := "0f2f69229c772c51156ec470fa4766f7e992688d9508248fb7dd611a39f6ee92", func := "warpwright/warpwrightlaw31.AxiomRenames", spec := "axiomRenames", unfollowed := true, recurses := true, apart := false }
def AxiomRenamesSaid : Prop := axiomRenamesRow.holds Try.pinned (OpenSpec.ofChange axiomRenamesSpec)

/-- ITS FALSE NEIGHBOUR: 'it returns false'. Refute it at one input. -/
def axiomRenamesWrong : ChangeSpec := { name := "axiomRenames", fn := fun _ => fun
  | [d1, d2, d3] => { results := [.lit (.bool false)], args := [d1, d2, d3] }
  | _ => none }
def AxiomRenamesWrongFalsely : Prop := axiomRenamesRow.holds Try.pinned (OpenSpec.ofChange axiomRenamesWrong)

/-- 'warpwrightlaw31.AxiomLitmus': WHATEVER THE INPUT: true; the input reads as it did. -/
def axiomLitmusSpec : ChangeSpec := { name := "axiomLitmus", fn := fun _ => fun
  | [d1, d2, d3] => { results := [.lit (.bool true)], args := [d1, d2, d3] }
  | _ => none }
def axiomLitmusRow : OpenClaim := { program := "ytoojdjlancondaa", sum := "0f2f69229c772c51156ec470fa4766f7e992688d9508248fb7dd611a39f6ee92", func := "warpwright/warpwrightlaw31.AxiomLitmus", spec := "axiomLitmus", unfollowed := true, recurses := true, apart := false }
def AxiomLitmusSaid : Prop := axiomLitmusRow.holds Try.pinned (OpenSpec.ofChange axiomLitmusSpec)

/-- ITS FALSE NEIGHBOUR: 'it returns false'. Refute it at one input. -/
def axiomLitmusWrong : ChangeSpec := { name := "axiomLitmus", fn := fun _ => fun
  | [d1, d2, d3] => { results := [.lit (.bool false)], args := [d1, d2, d3] }
  | _ => none }
def AxiomLitmusWrongFalsely : Prop := axiomLitmusRow.holds Try.pinned (OpenSpec.ofChange axiomLitmusWrong)

/- THE SECOND FORM. 'bulk': how many values and letters a reading holds, each counted each time it is reached (what is shared counts as often as it is met; a slice's spare places count too). A statement '..UptoSaid' is the law's where the arguments, and the package variables that the reading takes, are together of bulk at most 1048576: NARROWER than '..Said'. Prove '..Said' where nothing that the law and all that it calls make is longer than what came in: it says more and counts as full. Else prove '..UptoSaid'. A law counts once. -/
mutual
def uptoBulk {H : Type} : DataW H → Nat
  | .lit (.string bytes) => bytes.length + 1
  | .lit _ => 1
  | .nil => 1
  | .ptr d => uptoBulk d + 1
  | .slice elems spare => uptoBulkAll elems + uptoBulkAll spare + 1
  | .agg parts => uptoBulkAll parts + 1
  | .iface _ d => uptoBulk d + 1
  | .map entries => uptoBulkEntries entries + 1
  | .held _ => 1
def uptoBulkAll {H : Type} : List (DataW H) → Nat
  | [] => 0
  | d :: r => uptoBulk d + uptoBulkAll r
def uptoBulkEntries {H : Type} : List (Lit × DataW H) → Nat
  | [] => 0
  | x :: r => uptoBulkEntry x + uptoBulkEntries r
def uptoBulkEntry {H : Type} : Lit × DataW H → Nat
  | (.string bytes, d) => bytes.length + uptoBulk d + 1
  | (_, d) => uptoBulk d + 1
 end
def uptoSmall : (H : Type) → List (DataW H) → Bool := fun _ ds => decide (uptoBulkAll ds ≤ 1048576)
def OpenSpec.upto (s : _root_.Go.ChangeSpec) : _root_.Go.OpenSpec := { _root_.Go.OpenSpec.ofChange s with cond := some uptoSmall }

/-- 'warpwrightlaw31.AxiomMatchesReference', WHERE WHAT IT READS IS OF BULK AT MOST 1048576: true; the input reads as it did. -/
def axiomMatchesReferenceUptoRow : OpenClaim := { program := "ytoojdjlancondaa", sum := "0f2f69229c772c51156ec470fa4766f7e992688d9508248fb7dd611a39f6ee92", func := "warpwright/warpwrightlaw31.AxiomMatchesReference", spec := "axiomMatchesReference", unfollowed := true, recurses := true, apart := false, narrowed := true }
def AxiomMatchesReferenceUptoSaid : Prop := axiomMatchesReferenceUptoRow.holds Try.pinned (OpenSpec.upto axiomMatchesReferenceSpec)

/-- 'warpwrightlaw31.AxiomSequential', WHERE WHAT IT READS IS OF BULK AT MOST 1048576: true; the input reads as it did. -/
def axiomSequentialUptoRow : OpenClaim := { program := "ytoojdjlancondaa", sum := "0f2f69229c772c51156ec470fa4766f7e992688d9508248fb7dd611a39f6ee92", func := "warpwright/warpwrightlaw31.AxiomSequential", spec := "axiomSequential", unfollowed := true, recurses := true, apart := false, narrowed := true }
def AxiomSequentialUptoSaid : Prop := axiomSequentialUptoRow.holds Try.pinned (OpenSpec.upto axiomSequentialSpec)

/-- 'warpwrightlaw31.AxiomCoherence', WHERE WHAT IT READS IS OF BULK AT MOST 1048576: true; the input reads as it did. -/
def axiomCoherenceUptoRow : OpenClaim := { program := "ytoojdjlancondaa", sum := "0f2f69229c772c51156ec470fa4766f7e992688d9508248fb7dd611a39f6ee92", func := "warpwright/warpwrightlaw31.AxiomCoherence", spec := "axiomCoherence", unfollowed := true, recurses := true, apart := false, narrowed := true }
def AxiomCoherenceUptoSaid : Prop := axiomCoherenceUptoRow.holds Try.pinned (OpenSpec.upto axiomCoherenceSpec)

/-- 'warpwrightlaw31.AxiomAdds', WHERE WHAT IT READS IS OF BULK AT MOST 1048576: true; the input reads as it did. -/
def axiomAddsUptoRow : OpenClaim := { program := "ytoojdjlancondaa", sum := "0f2f69229c772c51156ec470fa4766f7e992688d9508248fb7dd611a39f6ee92", func := "warpwright/warpwrightlaw31.AxiomAdds", spec := "axiomAdds", unfollowed := true, recurses := true, apart := false, narrowed := true }
def AxiomAddsUptoSaid : Prop := axiomAddsUptoRow.holds Try.pinned (OpenSpec.upto axiomAddsSpec)

/-- 'warpwrightlaw31.AxiomFences', WHERE WHAT IT READS IS OF BULK AT MOST 1048576: true; the input reads as it did. -/
def axiomFencesUptoRow : OpenClaim := { program := "ytoojdjlancondaa", sum := "0f2f69229c772c51156ec470fa4766f7e992688d9508248fb7dd611a39f6ee92", func := "warpwright/warpwrightlaw31.AxiomFences", spec := "axiomFences", unfollowed := true, recurses := true, apart := false, narrowed := true }
def AxiomFencesUptoSaid : Prop := axiomFencesUptoRow.holds Try.pinned (OpenSpec.upto axiomFencesSpec)

/-- 'warpwrightlaw31.AxiomRenames', WHERE WHAT IT READS IS OF BULK AT MOST 1048576: true; the input reads as it did. -/
def axiomRenamesUptoRow : OpenClaim := { program := "ytoojdjlancondaa", sum := "0f2f69229c772c51156ec470fa4766f7e992688d9508248fb7dd611a39f6ee92", func := "warpwright/warpwrightlaw31.AxiomRenames", spec := "axiomRenames", unfollowed := true, recurses := true, apart := false, narrowed := true }
def AxiomRenamesUptoSaid : Prop := axiomRenamesUptoRow.holds Try.pinned (OpenSpec.upto axiomRenamesSpec)

/-- 'warpwrightlaw31.AxiomLitmus', WHERE WHAT IT READS IS OF BULK AT MOST 1048576: true; the input reads as it did. -/
def axiomLitmusUptoRow : OpenClaim := { program := "ytoojdjlancondaa", sum := "0f2f69229c772c51156ec470fa4766f7e992688d9508248fb7dd611a39f6ee92", func := "warpwright/warpwrightlaw31.AxiomLitmus", spec := "axiomLitmus", unfollowed := true, recurses := true, apart := false, narrowed := true }
def AxiomLitmusUptoSaid : Prop := axiomLitmusUptoRow.holds Try.pinned (OpenSpec.upto axiomLitmusSpec)

end Rows
end Go.Proofs.Ytoojdjlancondaa
