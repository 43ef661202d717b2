/-
  No cell of these rows narrows 'for every input' (looked for: loops, veiled, ifaces, maps, wideKeys, modest, calm, conditions, laid).
  DERIVED. THE GIVEN ROWS OF THIS SEAT. 7 by the template 'for every input the law returns true; each argument reads behind the call as it read before'; 0 by the template 'total and deterministic' (their statements: YtdckgfhdkehlmaaGreatTotals.lean).
  GIVEN WITH THE SEED: the statements are not yours to turn. If you find one false, say at which input.
  Laid BY PROGRAM, IN A SANDBOX (cutbox-rows.mjs): the forced cells as the released guide's own fill.sh prints them over the translation 0fe5f6b9252f3d7d… (all of the seat's roots in one cut). By AI agents, Wed Nov 11 2026. No macro, syntax, notation, axiom, sorry.
-/
import Derived.Test.YtdckgfhdkehlmaaGreatChecked
import GoSem.Claim
import GoSem.ClaimJoined
import GoSem.ClaimMapViews
import Derived.JoinedTies
import Derived.KernelRfl
namespace Go.Proofs.YtdckgfhdkehlmaaGreat
/- THE CELL 'sum', in the pinned program and in every row, IS THE sha256 OF THE DUMP (.gsa) THAT YtdckgfhdkehlmaaGreatProg.lean LOADS. Nothing in Lean hashes anything: it is a label: what it is worth is what the hold of that sum in a sandbox is worth. -/
noncomputable def Tryz.pinned : Pinned := { name := "ytdckgfhdkehlmaagreat", sum := "0fe5f6b9252f3d7d2a3e5f9ddc7341a2d01dd67bb870bbdaf769a6ac3f9bc1fb", checked := Tryz.checked }
namespace Rows
def none {H : Type} : Left H := { results := [], args := [] }

/-- 'quarterdecklaw21.PartAnew': WHATEVER THE INPUT: true; the input reads as it did. -/
def partAnewSpec : ChangeSpec := { name := "partAnew", fn := fun _ => fun
  | [d1, d2, d3] => { results := [.lit (.bool true)], args := [d1, d2, d3] }
  | _ => none }
def partAnewRow : OpenClaim := { program := "ytdckgfhdkehlmaagreat", sum := "0fe5f6b9252f3d7d2a3e5f9ddc7341a2d01dd67bb870bbdaf769a6ac3f9bc1fb", func := "quarterdeck/quarterdecklaw21.PartAnew", spec := "partAnew", inPlace := ["slices.overlaps[quarterdeck/api.Wait]"], unfollowed := true, recurses := true, apart := false }
def PartAnewSaid : Prop := partAnewRow.holds Tryz.pinned (OpenSpec.ofChange partAnewSpec)

/-- ITS FALSE NEIGHBOUR: 'it returns false'. Refute it at one input. -/
def partAnewWrong : ChangeSpec := { name := "partAnew", fn := fun _ => fun
  | [d1, d2, d3] => { results := [.lit (.bool false)], args := [d1, d2, d3] }
  | _ => none }
def PartAnewWrongFalsely : Prop := partAnewRow.holds Tryz.pinned (OpenSpec.ofChange partAnewWrong)

/-- 'quarterdecklaw21.PartBlocks': WHATEVER THE INPUT: true; the input reads as it did. -/
def partBlocksSpec : ChangeSpec := { name := "partBlocks", fn := fun _ => fun
  | [d1, d2, d3, d4, d5, d6] => { results := [.lit (.bool true)], args := [d1, d2, d3, d4, d5, d6] }
  | _ => none }
def partBlocksRow : OpenClaim := { program := "ytdckgfhdkehlmaagreat", sum := "0fe5f6b9252f3d7d2a3e5f9ddc7341a2d01dd67bb870bbdaf769a6ac3f9bc1fb", func := "quarterdeck/quarterdecklaw21.PartBlocks", spec := "partBlocks", inPlace := ["slices.overlaps[quarterdeck/api.Wait]"], unfollowed := true, recurses := true, apart := false }
def PartBlocksSaid : Prop := partBlocksRow.holds Tryz.pinned (OpenSpec.ofChange partBlocksSpec)

/-- ITS FALSE NEIGHBOUR: 'it returns false'. Refute it at one input. -/
def partBlocksWrong : ChangeSpec := { name := "partBlocks", fn := fun _ => fun
  | [d1, d2, d3, d4, d5, d6] => { results := [.lit (.bool false)], args := [d1, d2, d3, d4, d5, d6] }
  | _ => none }
def PartBlocksWrongFalsely : Prop := partBlocksRow.holds Tryz.pinned (OpenSpec.ofChange partBlocksWrong)

/-- 'quarterdecklaw21.PartHalts': WHATEVER THE INPUT: true; the input reads as it did. -/
def partHaltsSpec : ChangeSpec := { name := "partHalts", fn := fun _ => fun
  | [d] => { results := [.lit (.bool true)], args := [d] }
  | _ => none }
def partHaltsRow : OpenClaim := { program := "ytdckgfhdkehlmaagreat", sum := "0fe5f6b9252f3d7d2a3e5f9ddc7341a2d01dd67bb870bbdaf769a6ac3f9bc1fb", func := "quarterdeck/quarterdecklaw21.PartHalts", spec := "partHalts", inPlace := ["slices.overlaps[quarterdeck/api.Wait]"], unfollowed := true, recurses := true, apart := false }
def PartHaltsSaid : Prop := partHaltsRow.holds Tryz.pinned (OpenSpec.ofChange partHaltsSpec)

/-- ITS FALSE NEIGHBOUR: 'it returns false'. Refute it at one input. -/
def partHaltsWrong : ChangeSpec := { name := "partHalts", fn := fun _ => fun
  | [d] => { results := [.lit (.bool false)], args := [d] }
  | _ => none }
def PartHaltsWrongFalsely : Prop := partHaltsRow.holds Tryz.pinned (OpenSpec.ofChange partHaltsWrong)

/-- 'quarterdecklaw21.PartTold': WHATEVER THE INPUT: true; the input reads as it did. -/
def partToldSpec : ChangeSpec := { name := "partTold", fn := fun _ => fun
  | [d1, d2, d3, d4, d5] => { results := [.lit (.bool true)], args := [d1, d2, d3, d4, d5] }
  | _ => none }
def partToldRow : OpenClaim := { program := "ytdckgfhdkehlmaagreat", sum := "0fe5f6b9252f3d7d2a3e5f9ddc7341a2d01dd67bb870bbdaf769a6ac3f9bc1fb", func := "quarterdeck/quarterdecklaw21.PartTold", spec := "partTold", inPlace := ["slices.overlaps[quarterdeck/api.Wait]"], unfollowed := true, recurses := true, apart := false }
def PartToldSaid : Prop := partToldRow.holds Tryz.pinned (OpenSpec.ofChange partToldSpec)

/-- ITS FALSE NEIGHBOUR: 'it returns false'. Refute it at one input. -/
def partToldWrong : ChangeSpec := { name := "partTold", fn := fun _ => fun
  | [d1, d2, d3, d4, d5] => { results := [.lit (.bool false)], args := [d1, d2, d3, d4, d5] }
  | _ => none }
def PartToldWrongFalsely : Prop := partToldRow.holds Tryz.pinned (OpenSpec.ofChange partToldWrong)

/-- 'quarterdecklaw21.PartOwn': WHATEVER THE INPUT: true; the input reads as it did. -/
def partOwnSpec : ChangeSpec := { name := "partOwn", fn := fun _ => fun
  | [d1, d2, d3, d4, d5, d6] => { results := [.lit (.bool true)], args := [d1, d2, d3, d4, d5, d6] }
  | _ => none }
def partOwnRow : OpenClaim := { program := "ytdckgfhdkehlmaagreat", sum := "0fe5f6b9252f3d7d2a3e5f9ddc7341a2d01dd67bb870bbdaf769a6ac3f9bc1fb", func := "quarterdeck/quarterdecklaw21.PartOwn", spec := "partOwn", inPlace := ["slices.overlaps[quarterdeck/api.Wait]"], unfollowed := true, recurses := true, apart := false }
def PartOwnSaid : Prop := partOwnRow.holds Tryz.pinned (OpenSpec.ofChange partOwnSpec)

/-- ITS FALSE NEIGHBOUR: 'it returns false'. Refute it at one input. -/
def partOwnWrong : ChangeSpec := { name := "partOwn", fn := fun _ => fun
  | [d1, d2, d3, d4, d5, d6] => { results := [.lit (.bool false)], args := [d1, d2, d3, d4, d5, d6] }
  | _ => none }
def PartOwnWrongFalsely : Prop := partOwnRow.holds Tryz.pinned (OpenSpec.ofChange partOwnWrong)

/-- 'quarterdecklaw21.PartActs': WHATEVER THE INPUT: true; the input reads as it did. -/
def partActsSpec : ChangeSpec := { name := "partActs", fn := fun _ => fun
  | [d1, d2, d3, d4, d5] => { results := [.lit (.bool true)], args := [d1, d2, d3, d4, d5] }
  | _ => none }
def partActsRow : OpenClaim := { program := "ytdckgfhdkehlmaagreat", sum := "0fe5f6b9252f3d7d2a3e5f9ddc7341a2d01dd67bb870bbdaf769a6ac3f9bc1fb", func := "quarterdeck/quarterdecklaw21.PartActs", spec := "partActs", inPlace := ["slices.overlaps[quarterdeck/api.Wait]"], unfollowed := true, recurses := true, apart := false }
def PartActsSaid : Prop := partActsRow.holds Tryz.pinned (OpenSpec.ofChange partActsSpec)

/-- ITS FALSE NEIGHBOUR: 'it returns false'. Refute it at one input. -/
def partActsWrong : ChangeSpec := { name := "partActs", fn := fun _ => fun
  | [d1, d2, d3, d4, d5] => { results := [.lit (.bool false)], args := [d1, d2, d3, d4, d5] }
  | _ => none }
def PartActsWrongFalsely : Prop := partActsRow.holds Tryz.pinned (OpenSpec.ofChange partActsWrong)

/-- 'quarterdecklaw21.PartModes': WHATEVER THE INPUT: true; the input reads as it did. -/
def partModesSpec : ChangeSpec := { name := "partModes", fn := fun _ => fun
  | [d1, d2, d3, d4, d5] => { results := [.lit (.bool true)], args := [d1, d2, d3, d4, d5] }
  | _ => none }
def partModesRow : OpenClaim := { program := "ytdckgfhdkehlmaagreat", sum := "0fe5f6b9252f3d7d2a3e5f9ddc7341a2d01dd67bb870bbdaf769a6ac3f9bc1fb", func := "quarterdeck/quarterdecklaw21.PartModes", spec := "partModes", inPlace := ["slices.overlaps[quarterdeck/api.Wait]"], unfollowed := true, recurses := true, apart := false }
def PartModesSaid : Prop := partModesRow.holds Tryz.pinned (OpenSpec.ofChange partModesSpec)

/-- ITS FALSE NEIGHBOUR: 'it returns false'. Refute it at one input. -/
def partModesWrong : ChangeSpec := { name := "partModes", fn := fun _ => fun
  | [d1, d2, d3, d4, d5] => { results := [.lit (.bool false)], args := [d1, d2, d3, d4, d5] }
  | _ => none }
def PartModesWrongFalsely : Prop := partModesRow.holds Tryz.pinned (OpenSpec.ofChange partModesWrong)

/- THE SECOND FORM. 'bulk': how many values and letters a reading holds, each counted each time it is reached (what is shared counts as often as it is met; a slice's spare places count too). A statement '..UptoSaid' is the law's where the arguments, and the package variables that the reading takes, are together of bulk at most 1048576: NARROWER than '..Said'. Prove '..Said' where nothing that the law and all that it calls make is longer than what came in: it says more and counts as full. Else prove '..UptoSaid'. A law counts once. -/
mutual
def uptoBulk {H : Type} : DataW H → Nat
  | .lit (.string bytes) => bytes.length + 1
  | .lit _ => 1
  | .nil => 1
  | .ptr d => uptoBulk d + 1
  | .slice elems spare => uptoBulkAll elems + uptoBulkAll spare + 1
  | .agg parts => uptoBulkAll parts + 1
  | .iface _ d => uptoBulk d + 1
  | .map entries => uptoBulkEntries entries + 1
  | .held _ => 1
def uptoBulkAll {H : Type} : List (DataW H) → Nat
  | [] => 0
  | d :: r => uptoBulk d + uptoBulkAll r
def uptoBulkEntries {H : Type} : List (Lit × DataW H) → Nat
  | [] => 0
  | x :: r => uptoBulkEntry x + uptoBulkEntries r
def uptoBulkEntry {H : Type} : Lit × DataW H → Nat
  | (.string bytes, d) => bytes.length + uptoBulk d + 1
  | (_, d) => uptoBulk d + 1
 end
def uptoSmall : (H : Type) → List (DataW H) → Bool := fun _ ds => decide (uptoBulkAll ds ≤ 1048576)
def OpenSpec.upto (s : _root_.Go.ChangeSpec) : _root_.Go.OpenSpec := { _root_.Go.OpenSpec.ofChange s with cond := some uptoSmall }

/-- 'quarterdecklaw21.PartAnew', WHERE WHAT IT READS IS OF BULK AT MOST 1048576: true; the input reads as it did. -/
def partAnewUptoRow : OpenClaim := { program := "ytdckgfhdkehlmaagreat", sum := "0fe5f6b9252f3d7d2a3e5f9ddc7341a2d01dd67bb870bbdaf769a6ac3f9bc1fb", func := "quarterdeck/quarterdecklaw21.PartAnew", spec := "partAnew", inPlace := ["slices.overlaps[quarterdeck/api.Wait]"], unfollowed := true, recurses := true, apart := false, narrowed := true }
def PartAnewUptoSaid : Prop := partAnewUptoRow.holds Tryz.pinned (OpenSpec.upto partAnewSpec)

/-- 'quarterdecklaw21.PartBlocks', WHERE WHAT IT READS IS OF BULK AT MOST 1048576: true; the input reads as it did. -/
def partBlocksUptoRow : OpenClaim := { program := "ytdckgfhdkehlmaagreat", sum := "0fe5f6b9252f3d7d2a3e5f9ddc7341a2d01dd67bb870bbdaf769a6ac3f9bc1fb", func := "quarterdeck/quarterdecklaw21.PartBlocks", spec := "partBlocks", inPlace := ["slices.overlaps[quarterdeck/api.Wait]"], unfollowed := true, recurses := true, apart := false, narrowed := true }
def PartBlocksUptoSaid : Prop := partBlocksUptoRow.holds Tryz.pinned (OpenSpec.upto partBlocksSpec)

/-- 'quarterdecklaw21.PartHalts', WHERE WHAT IT READS IS OF BULK AT MOST 1048576: true; the input reads as it did. -/
def partHaltsUptoRow : OpenClaim := { program := "ytdckgfhdkehlmaagreat", sum := "0fe5f6b9252f3d7d2a3e5f9ddc7341a2d01dd67bb870bbdaf769a6ac3f9bc1fb", func := "quarterdeck/quarterdecklaw21.PartHalts", spec := "partHalts", inPlace := ["slices.overlaps[quarterdeck/api.Wait]"], unfollowed := true, recurses := true, apart := false, narrowed := true }
def PartHaltsUptoSaid : Prop := partHaltsUptoRow.holds Tryz.pinned (OpenSpec.upto partHaltsSpec)

/-- 'quarterdecklaw21.PartTold', WHERE WHAT IT READS IS OF BULK AT MOST 1048576: true; the input reads as it did. -/
def partToldUptoRow : OpenClaim := { program := "ytdckgfhdkehlmaagreat", sum := "0fe5f6b9252f3d7d2a3e5f9ddc7341a2d01dd67bb870bbdaf769a6ac3f9bc1fb", func := "quarterdeck/quarterdecklaw21.PartTold", spec := "partTold", inPlace := ["slices.overlaps[quarterdeck/api.Wait]"], unfollowed := true, recurses := true, apart := false, narrowed := true }
def PartToldUptoSaid : Prop := partToldUptoRow.holds Tryz.pinned (OpenSpec.upto partToldSpec)

/-- 'quarterdecklaw21.PartOwn', WHERE WHAT IT READS IS OF BULK AT MOST 1048576: true; the input reads as it did. -/
def partOwnUptoRow : OpenClaim := { program := "ytdckgfhdkehlmaagreat", sum := "0fe5f6b9252f3d7d2a3e5f9ddc7341a2d01dd67bb870bbdaf769a6ac3f9bc1fb", func := "quarterdeck/quarterdecklaw21.PartOwn", spec := "partOwn", inPlace := ["slices.overlaps[quarterdeck/api.Wait]"], unfollowed := true, recurses := true, apart := false, narrowed := true }
def PartOwnUptoSaid : Prop := partOwnUptoRow.holds Tryz.pinned (OpenSpec.upto partOwnSpec)

/-- 'quarterdecklaw21.PartActs', WHERE WHAT IT READS IS OF BULK AT MOST 1048576: true; the input reads as it did. -/
def partActsUptoRow : OpenClaim := { program := "ytdckgfhdkehlmaagreat", sum := "0fe5f6b9252f3d7d2a3e5f9ddc7341a2d01dd67bb870bbdaf769a6ac3f9bc1fb", func := "quarterdeck/quarterdecklaw21.PartActs", spec := "partActs", inPlace := ["slices.overlaps[quarterdeck/api.Wait]"], unfollowed := true, recurses := true, apart := false, narrowed := true }
def PartActsUptoSaid : Prop := partActsUptoRow.holds Tryz.pinned (OpenSpec.upto partActsSpec)

/-- 'quarterdecklaw21.PartModes', WHERE WHAT IT READS IS OF BULK AT MOST 1048576: true; the input reads as it did. -/
def partModesUptoRow : OpenClaim := { program := "ytdckgfhdkehlmaagreat", sum := "0fe5f6b9252f3d7d2a3e5f9ddc7341a2d01dd67bb870bbdaf769a6ac3f9bc1fb", func := "quarterdeck/quarterdecklaw21.PartModes", spec := "partModes", inPlace := ["slices.overlaps[quarterdeck/api.Wait]"], unfollowed := true, recurses := true, apart := false, narrowed := true }
def PartModesUptoSaid : Prop := partModesUptoRow.holds Tryz.pinned (OpenSpec.upto partModesSpec)

end Rows
end Go.Proofs.YtdckgfhdkehlmaaGreat
