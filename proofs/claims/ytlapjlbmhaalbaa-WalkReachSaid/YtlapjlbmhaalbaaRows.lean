/-
  No cell of these rows narrows 'for every input' (looked for: loops, veiled, ifaces, maps, wideKeys, modest, calm, conditions, laid).
  DERIVED. THE GIVEN ROWS OF THIS SEAT. 4 by the template 'for every input the law returns true; each argument reads behind the call as it read before'; 0 by the template 'total and deterministic' (their statements: YtlapjlbmhaalbaaTotals.lean).
  GIVEN WITH THE SEED: the statements are not yours to turn. If you find one false, say at which input.
  Laid BY PROGRAM, IN A SANDBOX (cutbox-rows.mjs): the forced cells as the released guide's own fill.sh prints them over the translation ab063dca63c1222f… (all of the seat's roots in one cut). By AI agents, Wed Nov 11 2026. No macro, syntax, notation, axiom, sorry.
-/
import Derived.Test.YtlapjlbmhaalbaaChecked
import GoSem.Claim
import GoSem.ClaimJoined
import GoSem.ClaimMapViews
import Derived.JoinedTies
import Derived.KernelRfl
namespace Go.Proofs.Ytlapjlbmhaalbaa
/- THE CELL 'sum', in the pinned program and in every row, IS THE sha256 OF THE DUMP (.gsa) THAT YtlapjlbmhaalbaaProg.lean LOADS. Nothing in Lean hashes anything: it is a label: what it is worth is what the hold of that sum in a sandbox is worth. -/
noncomputable def Try.pinned : Pinned := { name := "ytlapjlbmhaalbaa", sum := "ab063dca63c1222fb2459ea4dcf84fb4238978480e4b6e19d593e729facb9670", checked := Try.checked }
namespace Rows
def none {H : Type} : Left H := { results := [], args := [] }

/-- 'dovecotelaw06.WalkCut': WHATEVER THE INPUT: true; the input reads as it did. -/
def walkCutSpec : ChangeSpec := { name := "walkCut", fn := fun _ => fun
  | [d] => { results := [.lit (.bool true)], args := [d] }
  | _ => none }
def walkCutRow : OpenClaim := { program := "ytlapjlbmhaalbaa", sum := "ab063dca63c1222fb2459ea4dcf84fb4238978480e4b6e19d593e729facb9670", func := "dovecote/dovecotelaw06.WalkCut", spec := "walkCut", unfollowed := true, recurses := true, apart := false }
def WalkCutSaid : Prop := walkCutRow.holds Try.pinned (OpenSpec.ofChange walkCutSpec)

/-- ITS FALSE NEIGHBOUR: 'it returns false'. Refute it at one input. -/
def walkCutWrong : ChangeSpec := { name := "walkCut", fn := fun _ => fun
  | [d] => { results := [.lit (.bool false)], args := [d] }
  | _ => none }
def WalkCutWrongFalsely : Prop := walkCutRow.holds Try.pinned (OpenSpec.ofChange walkCutWrong)

/-- 'dovecotelaw06.WalkReach': WHATEVER THE INPUT: true; the input reads as it did. -/
def walkReachSpec : ChangeSpec := { name := "walkReach", fn := fun _ => fun
  | [d1, d2] => { results := [.lit (.bool true)], args := [d1, d2] }
  | _ => none }
def walkReachRow : OpenClaim := { program := "ytlapjlbmhaalbaa", sum := "ab063dca63c1222fb2459ea4dcf84fb4238978480e4b6e19d593e729facb9670", func := "dovecote/dovecotelaw06.WalkReach", spec := "walkReach", unfollowed := true, recurses := true, apart := false }
def WalkReachSaid : Prop := walkReachRow.holds Try.pinned (OpenSpec.ofChange walkReachSpec)

/-- ITS FALSE NEIGHBOUR: 'it returns false'. Refute it at one input. -/
def walkReachWrong : ChangeSpec := { name := "walkReach", fn := fun _ => fun
  | [d1, d2] => { results := [.lit (.bool false)], args := [d1, d2] }
  | _ => none }
def WalkReachWrongFalsely : Prop := walkReachRow.holds Try.pinned (OpenSpec.ofChange walkReachWrong)

/-- 'dovecotelaw06.WalkMore': WHATEVER THE INPUT: true; the input reads as it did. -/
def walkMoreSpec : ChangeSpec := { name := "walkMore", fn := fun _ => fun
  | [d1, d2, d3] => { results := [.lit (.bool true)], args := [d1, d2, d3] }
  | _ => none }
def walkMoreRow : OpenClaim := { program := "ytlapjlbmhaalbaa", sum := "ab063dca63c1222fb2459ea4dcf84fb4238978480e4b6e19d593e729facb9670", func := "dovecote/dovecotelaw06.WalkMore", spec := "walkMore", unfollowed := true, recurses := true, apart := false }
def WalkMoreSaid : Prop := walkMoreRow.holds Try.pinned (OpenSpec.ofChange walkMoreSpec)

/-- ITS FALSE NEIGHBOUR: 'it returns false'. Refute it at one input. -/
def walkMoreWrong : ChangeSpec := { name := "walkMore", fn := fun _ => fun
  | [d1, d2, d3] => { results := [.lit (.bool false)], args := [d1, d2, d3] }
  | _ => none }
def WalkMoreWrongFalsely : Prop := walkMoreRow.holds Try.pinned (OpenSpec.ofChange walkMoreWrong)

/-- 'dovecotelaw06.WalkSound': WHATEVER THE INPUT: true; the input reads as it did. -/
def walkSoundSpec : ChangeSpec := { name := "walkSound", fn := fun _ => fun
  | [d] => { results := [.lit (.bool true)], args := [d] }
  | _ => none }
def walkSoundRow : OpenClaim := { program := "ytlapjlbmhaalbaa", sum := "ab063dca63c1222fb2459ea4dcf84fb4238978480e4b6e19d593e729facb9670", func := "dovecote/dovecotelaw06.WalkSound", spec := "walkSound", unfollowed := true, recurses := true, apart := false }
def WalkSoundSaid : Prop := walkSoundRow.holds Try.pinned (OpenSpec.ofChange walkSoundSpec)

/-- ITS FALSE NEIGHBOUR: 'it returns false'. Refute it at one input. -/
def walkSoundWrong : ChangeSpec := { name := "walkSound", fn := fun _ => fun
  | [d] => { results := [.lit (.bool false)], args := [d] }
  | _ => none }
def WalkSoundWrongFalsely : Prop := walkSoundRow.holds Try.pinned (OpenSpec.ofChange walkSoundWrong)

/- THE SECOND FORM. 'bulk': how many values and letters a reading holds, each counted each time it is reached (what is shared counts as often as it is met; a slice's spare places count too). A statement '..UptoSaid' is the law's where the arguments, and the package variables that the reading takes, are together of bulk at most 1048576: NARROWER than '..Said'. Prove '..Said' where nothing that the law and all that it calls make is longer than what came in: it says more and counts as full. Else prove '..UptoSaid'. A law counts once. -/
mutual
def uptoBulk {H : Type} : DataW H → Nat
  | .lit (.string bytes) => bytes.length + 1
  | .lit _ => 1
  | .nil => 1
  | .ptr d => uptoBulk d + 1
  | .slice elems spare => uptoBulkAll elems + uptoBulkAll spare + 1
  | .agg parts => uptoBulkAll parts + 1
  | .iface _ d => uptoBulk d + 1
  | .map entries => uptoBulkEntries entries + 1
  | .held _ => 1
def uptoBulkAll {H : Type} : List (DataW H) → Nat
  | [] => 0
  | d :: r => uptoBulk d + uptoBulkAll r
def uptoBulkEntries {H : Type} : List (Lit × DataW H) → Nat
  | [] => 0
  | x :: r => uptoBulkEntry x + uptoBulkEntries r
def uptoBulkEntry {H : Type} : Lit × DataW H → Nat
  | (.string bytes, d) => bytes.length + uptoBulk d + 1
  | (_, d) => uptoBulk d + 1
 end
def uptoSmall : (H : Type) → List (DataW H) → Bool := fun _ ds => decide (uptoBulkAll ds ≤ 1048576)
def OpenSpec.upto (s : _root_.Go.ChangeSpec) : _root_.Go.OpenSpec := { _root_.Go.OpenSpec.ofChange s with cond := some uptoSmall }

/-- 'dovecotelaw06.WalkCut', WHERE WHAT IT READS IS OF BULK AT MOST 1048576: true; the input reads as it did. -/
def walkCutUptoRow : OpenClaim := { program := "ytlapjlbmhaalbaa", sum := "ab063dca63c1222fb2459ea4dcf84fb4238978480e4b6e19d593e729facb9670", func := "dovecote/dovecotelaw06.WalkCut", spec := "walkCut", unfollowed := true, recurses := true, apart := false, narrowed := true }
def WalkCutUptoSaid : Prop := walkCutUptoRow.holds Try.pinned (OpenSpec.upto walkCutSpec)

/-- 'dovecotelaw06.WalkReach', WHERE WHAT IT READS IS OF BULK AT MOST 1048576: true; the input reads as it did. -/
def walkReachUptoRow : OpenClaim := { program := "ytlapjlbmhaalbaa", sum := "ab063dca63c1222fb2459ea4dcf84fb4238978480e4b6e19d593e729facb9670", func := "dovecote/dovecotelaw06.WalkReach", spec := "walkReach", unfollowed := true, recurses := true, apart := false, narrowed := true }
def WalkReachUptoSaid : Prop := walkReachUptoRow.holds Try.pinned (OpenSpec.upto walkReachSpec)

/-- 'dovecotelaw06.WalkMore', WHERE WHAT IT READS IS OF BULK AT MOST 1048576: true; the input reads as it did. -/
def walkMoreUptoRow : OpenClaim := { program := "ytlapjlbmhaalbaa", sum := "ab063dca63c1222fb2459ea4dcf84fb4238978480e4b6e19d593e729facb9670", func := "dovecote/dovecotelaw06.WalkMore", spec := "walkMore", unfollowed := true, recurses := true, apart := false, narrowed := true }
def WalkMoreUptoSaid : Prop := walkMoreUptoRow.holds Try.pinned (OpenSpec.upto walkMoreSpec)

/-- 'dovecotelaw06.WalkSound', WHERE WHAT IT READS IS OF BULK AT MOST 1048576: true; the input reads as it did. -/
def walkSoundUptoRow : OpenClaim := { program := "ytlapjlbmhaalbaa", sum := "ab063dca63c1222fb2459ea4dcf84fb4238978480e4b6e19d593e729facb9670", func := "dovecote/dovecotelaw06.WalkSound", spec := "walkSound", unfollowed := true, recurses := true, apart := false, narrowed := true }
def WalkSoundUptoSaid : Prop := walkSoundUptoRow.holds Try.pinned (OpenSpec.upto walkSoundSpec)

end Rows
end Go.Proofs.Ytlapjlbmhaalbaa
