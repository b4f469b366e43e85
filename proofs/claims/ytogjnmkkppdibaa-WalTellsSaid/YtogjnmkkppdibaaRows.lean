/-
  No cell of these rows narrows 'for every input' (looked for: loops, veiled, ifaces, maps, wideKeys, modest, calm, conditions, laid).
  DERIVED. THE GIVEN ROWS OF THIS SEAT. 5 by the template 'for every input the law returns true; each argument reads behind the call as it read before'; 0 by the template 'total and deterministic' (their statements: YtogjnmkkppdibaaTotals.lean).
  GIVEN WITH THE SEED: the statements are not yours to turn. If you find one false, say at which input.
  Laid BY PROGRAM, IN A SANDBOX (cutbox-rows.mjs): the forced cells as the released guide's own fill.sh prints them over the translation 6b328224052890cf… (all of the seat's roots in one cut). By AI agents, Wed Nov 11 2026. No macro, syntax, notation, axiom, sorry.
-/
import Derived.Test.YtogjnmkkppdibaaChecked
import GoSem.Claim
import GoSem.ClaimJoined
import GoSem.ClaimMapViews
import Derived.JoinedTies
import Derived.KernelRfl
namespace Go.Proofs.Ytogjnmkkppdibaa
/- THE CELL 'sum', in the pinned program and in every row, IS THE sha256 OF THE DUMP (.gsa) THAT YtogjnmkkppdibaaProg.lean LOADS. Nothing in Lean hashes anything: it is a label: what it is worth is what the hold of that sum in a sandbox is worth. -/
noncomputable def Try.pinned : Pinned := { name := "ytogjnmkkppdibaa", sum := "6b328224052890cf8a8103323666391a863594cdda33e4ea9c79059e4696803f", checked := Try.checked }
namespace Rows
def none {H : Type} : Left H := { results := [], args := [] }

/-- 'mailcoachlaw20.WalTells': WHATEVER THE INPUT: true; the input reads as it did. -/
def walTellsSpec : ChangeSpec := { name := "walTells", fn := fun _ => fun
  | [d] => { results := [.lit (.bool true)], args := [d] }
  | _ => none }
def walTellsRow : OpenClaim := { program := "ytogjnmkkppdibaa", sum := "6b328224052890cf8a8103323666391a863594cdda33e4ea9c79059e4696803f", func := "mailcoach/mailcoachlaw20.WalTells", spec := "walTells", apart := false }
def WalTellsSaid : Prop := walTellsRow.holds Try.pinned (OpenSpec.ofChange walTellsSpec)

/-- ITS FALSE NEIGHBOUR: 'it returns false'. Refute it at one input. -/
def walTellsWrong : ChangeSpec := { name := "walTells", fn := fun _ => fun
  | [d] => { results := [.lit (.bool false)], args := [d] }
  | _ => none }
def WalTellsWrongFalsely : Prop := walTellsRow.holds Try.pinned (OpenSpec.ofChange walTellsWrong)

/-- 'mailcoachlaw20.WalCuts': WHATEVER THE INPUT: true; the input reads as it did. -/
def walCutsSpec : ChangeSpec := { name := "walCuts", fn := fun _ => fun
  | [d1, d2] => { results := [.lit (.bool true)], args := [d1, d2] }
  | _ => none }
def walCutsRow : OpenClaim := { program := "ytogjnmkkppdibaa", sum := "6b328224052890cf8a8103323666391a863594cdda33e4ea9c79059e4696803f", func := "mailcoach/mailcoachlaw20.WalCuts", spec := "walCuts", apart := false }
def WalCutsSaid : Prop := walCutsRow.holds Try.pinned (OpenSpec.ofChange walCutsSpec)

/-- ITS FALSE NEIGHBOUR: 'it returns false'. Refute it at one input. -/
def walCutsWrong : ChangeSpec := { name := "walCuts", fn := fun _ => fun
  | [d1, d2] => { results := [.lit (.bool false)], args := [d1, d2] }
  | _ => none }
def WalCutsWrongFalsely : Prop := walCutsRow.holds Try.pinned (OpenSpec.ofChange walCutsWrong)

/-- 'mailcoachlaw20.WalSpoilt': WHATEVER THE INPUT: true; the input reads as it did. -/
def walSpoiltSpec : ChangeSpec := { name := "walSpoilt", fn := fun _ => fun
  | [d1, d2, d3] => { results := [.lit (.bool true)], args := [d1, d2, d3] }
  | _ => none }
def walSpoiltRow : OpenClaim := { program := "ytogjnmkkppdibaa", sum := "6b328224052890cf8a8103323666391a863594cdda33e4ea9c79059e4696803f", func := "mailcoach/mailcoachlaw20.WalSpoilt", spec := "walSpoilt", apart := false }
def WalSpoiltSaid : Prop := walSpoiltRow.holds Try.pinned (OpenSpec.ofChange walSpoiltSpec)

/-- ITS FALSE NEIGHBOUR: 'it returns false'. Refute it at one input. -/
def walSpoiltWrong : ChangeSpec := { name := "walSpoilt", fn := fun _ => fun
  | [d1, d2, d3] => { results := [.lit (.bool false)], args := [d1, d2, d3] }
  | _ => none }
def WalSpoiltWrongFalsely : Prop := walSpoiltRow.holds Try.pinned (OpenSpec.ofChange walSpoiltWrong)

/-- 'mailcoachlaw20.WalMore': WHATEVER THE INPUT: true; the input reads as it did. -/
def walMoreSpec : ChangeSpec := { name := "walMore", fn := fun _ => fun
  | [d1, d2] => { results := [.lit (.bool true)], args := [d1, d2] }
  | _ => none }
def walMoreRow : OpenClaim := { program := "ytogjnmkkppdibaa", sum := "6b328224052890cf8a8103323666391a863594cdda33e4ea9c79059e4696803f", func := "mailcoach/mailcoachlaw20.WalMore", spec := "walMore", apart := false }
def WalMoreSaid : Prop := walMoreRow.holds Try.pinned (OpenSpec.ofChange walMoreSpec)

/-- ITS FALSE NEIGHBOUR: 'it returns false'. Refute it at one input. -/
def walMoreWrong : ChangeSpec := { name := "walMore", fn := fun _ => fun
  | [d1, d2] => { results := [.lit (.bool false)], args := [d1, d2] }
  | _ => none }
def WalMoreWrongFalsely : Prop := walMoreRow.holds Try.pinned (OpenSpec.ofChange walMoreWrong)

/-- 'mailcoachlaw20.WalAgain': WHATEVER THE INPUT: true; the input reads as it did. -/
def walAgainSpec : ChangeSpec := { name := "walAgain", fn := fun _ => fun
  | [d] => { results := [.lit (.bool true)], args := [d] }
  | _ => none }
def walAgainRow : OpenClaim := { program := "ytogjnmkkppdibaa", sum := "6b328224052890cf8a8103323666391a863594cdda33e4ea9c79059e4696803f", func := "mailcoach/mailcoachlaw20.WalAgain", spec := "walAgain", apart := false }
def WalAgainSaid : Prop := walAgainRow.holds Try.pinned (OpenSpec.ofChange walAgainSpec)

/-- ITS FALSE NEIGHBOUR: 'it returns false'. Refute it at one input. -/
def walAgainWrong : ChangeSpec := { name := "walAgain", fn := fun _ => fun
  | [d] => { results := [.lit (.bool false)], args := [d] }
  | _ => none }
def WalAgainWrongFalsely : Prop := walAgainRow.holds Try.pinned (OpenSpec.ofChange walAgainWrong)

/- THE SECOND FORM. 'bulk': how many values and letters a reading holds, each counted each time it is reached (what is shared counts as often as it is met; a slice's spare places count too). A statement '..UptoSaid' is the law's where the arguments, and the package variables that the reading takes, are together of bulk at most 1048576: NARROWER than '..Said'. Prove '..Said' where nothing that the law and all that it calls make is longer than what came in: it says more and counts as full. Else prove '..UptoSaid'. A law counts once. -/
mutual
def uptoBulk {H : Type} : DataW H → Nat
  | .lit (.string bytes) => bytes.length + 1
  | .lit _ => 1
  | .nil => 1
  | .ptr d => uptoBulk d + 1
  | .slice elems spare => uptoBulkAll elems + uptoBulkAll spare + 1
  | .agg parts => uptoBulkAll parts + 1
  | .iface _ d => uptoBulk d + 1
  | .map entries => uptoBulkEntries entries + 1
  | .held _ => 1
def uptoBulkAll {H : Type} : List (DataW H) → Nat
  | [] => 0
  | d :: r => uptoBulk d + uptoBulkAll r
def uptoBulkEntries {H : Type} : List (Lit × DataW H) → Nat
  | [] => 0
  | x :: r => uptoBulkEntry x + uptoBulkEntries r
def uptoBulkEntry {H : Type} : Lit × DataW H → Nat
  | (.string bytes, d) => bytes.length + uptoBulk d + 1
  | (_, d) => uptoBulk d + 1
 end
def uptoSmall : (H : Type) → List (DataW H) → Bool := fun _ ds => decide (uptoBulkAll ds ≤ 1048576)
def OpenSpec.upto (s : _root_.Go.ChangeSpec) : _root_.Go.OpenSpec := { _root_.Go.OpenSpec.ofChange s with cond := some uptoSmall }

/-- 'mailcoachlaw20.WalTells', WHERE WHAT IT READS IS OF BULK AT MOST 1048576: true; the input reads as it did. -/
def walTellsUptoRow : OpenClaim := { program := "ytogjnmkkppdibaa", sum := "6b328224052890cf8a8103323666391a863594cdda33e4ea9c79059e4696803f", func := "mailcoach/mailcoachlaw20.WalTells", spec := "walTells", apart := false, narrowed := true }
def WalTellsUptoSaid : Prop := walTellsUptoRow.holds Try.pinned (OpenSpec.upto walTellsSpec)

/-- 'mailcoachlaw20.WalCuts', WHERE WHAT IT READS IS OF BULK AT MOST 1048576: true; the input reads as it did. -/
def walCutsUptoRow : OpenClaim := { program := "ytogjnmkkppdibaa", sum := "6b328224052890cf8a8103323666391a863594cdda33e4ea9c79059e4696803f", func := "mailcoach/mailcoachlaw20.WalCuts", spec := "walCuts", apart := false, narrowed := true }
def WalCutsUptoSaid : Prop := walCutsUptoRow.holds Try.pinned (OpenSpec.upto walCutsSpec)

/-- 'mailcoachlaw20.WalSpoilt', WHERE WHAT IT READS IS OF BULK AT MOST 1048576: true; the input reads as it did. -/
def walSpoiltUptoRow : OpenClaim := { program := "ytogjnmkkppdibaa", sum := "6b328224052890cf8a8103323666391a863594cdda33e4ea9c79059e4696803f", func := "mailcoach/mailcoachlaw20.WalSpoilt", spec := "walSpoilt", apart := false, narrowed := true }
def WalSpoiltUptoSaid : Prop := walSpoiltUptoRow.holds Try.pinned (OpenSpec.upto walSpoiltSpec)

/-- 'mailcoachlaw20.WalMore', WHERE WHAT IT READS IS OF BULK AT MOST 1048576: true; the input reads as it did. -/
def walMoreUptoRow : OpenClaim := { program := "ytogjnmkkppdibaa", sum := "6b328224052890cf8a8103323666391a863594cdda33e4ea9c79059e4696803f", func := "mailcoach/mailcoachlaw20.WalMore", spec := "walMore", apart := false, narrowed := true }
def WalMoreUptoSaid : Prop := walMoreUptoRow.holds Try.pinned (OpenSpec.upto walMoreSpec)

/-- 'mailcoachlaw20.WalAgain', WHERE WHAT IT READS IS OF BULK AT MOST 1048576: true; the input reads as it did. -/
def walAgainUptoRow : OpenClaim := { program := "ytogjnmkkppdibaa", sum := "6b328224052890cf8a8103323666391a863594cdda33e4ea9c79059e4696803f", func := "mailcoach/mailcoachlaw20.WalAgain", spec := "walAgain", apart := false, narrowed := true }
def WalAgainUptoSaid : Prop := walAgainUptoRow.holds Try.pinned (OpenSpec.upto walAgainSpec)

end Rows
end Go.Proofs.Ytogjnmkkppdibaa
