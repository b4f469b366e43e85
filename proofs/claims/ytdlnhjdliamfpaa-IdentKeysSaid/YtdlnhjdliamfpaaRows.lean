/-
  No cell of these rows narrows 'for every input' (looked for: loops, veiled, ifaces, maps, wideKeys, modest, calm, conditions, laid).
  DERIVED. THE GIVEN ROWS OF THIS SEAT. 5 by the template 'for every input the law returns true; each argument reads behind the call as it read before'; 0 by the template 'total and deterministic' (their statements: YtdlnhjdliamfpaaTotals.lean).
  GIVEN WITH THE SEED: the statements are not yours to turn. If you find one false, say at which input.
  Laid BY PROGRAM, IN A SANDBOX (cutbox-rows.mjs): the forced cells as the released guide's own fill.sh prints them over the translation 426c9e0ecd55ad53… (all of the seat's roots in one cut). By AI agents, Wed Nov 11 2026. No macro, syntax, notation, axiom, sorry.
-/
import Derived.Test.YtdlnhjdliamfpaaChecked
import GoSem.Claim
import GoSem.ClaimJoined
import GoSem.ClaimMapViews
import Derived.JoinedTies
import Derived.KernelRfl
namespace Go.Proofs.Ytdlnhjdliamfpaa
/- THE CELL 'sum', in the pinned program and in every row, IS THE sha256 OF THE DUMP (.gsa) THAT YtdlnhjdliamfpaaProg.lean LOADS. Nothing in Lean hashes anything: it is a label: what it is worth is what the hold of that sum in a sandbox is worth. -/
noncomputable def Try.pinned : Pinned := { name := "ytdlnhjdliamfpaa", sum := "426c9e0ecd55ad531182e47fdf0ea2d95a6f018b4093a5cb32128482664a1115", checked := Try.checked }
namespace Rows
def none {H : Type} : Left H := { results := [], args := [] }

/-- 'mailcoachlaw10.IdentTells': WHATEVER THE INPUT: true; the input reads as it did. -/
def identTellsSpec : ChangeSpec := { name := "identTells", fn := fun _ => fun
  | [d1, d2, d3] => { results := [.lit (.bool true)], args := [d1, d2, d3] }
  | _ => none }
def identTellsRow : OpenClaim := { program := "ytdlnhjdliamfpaa", sum := "426c9e0ecd55ad531182e47fdf0ea2d95a6f018b4093a5cb32128482664a1115", func := "mailcoach/mailcoachlaw10.IdentTells", spec := "identTells", inPlace := ["internal/bytealg.IndexByteString", "internal/abi.NoEscape", "internal/bytealg.MakeNoZero", "internal/bytealg.IndexString"], unfollowed := true, recurses := true, named := ["internal/bytealg.MaxLen"], apart := false }
def IdentTellsSaid : Prop := identTellsRow.holds Try.pinned (OpenSpec.ofChange identTellsSpec)

/-- ITS FALSE NEIGHBOUR: 'it returns false'. Refute it at one input. -/
def identTellsWrong : ChangeSpec := { name := "identTells", fn := fun _ => fun
  | [d1, d2, d3] => { results := [.lit (.bool false)], args := [d1, d2, d3] }
  | _ => none }
def IdentTellsWrongFalsely : Prop := identTellsRow.holds Try.pinned (OpenSpec.ofChange identTellsWrong)

/-- 'mailcoachlaw10.IdentOnce': WHATEVER THE INPUT: true; the input reads as it did. -/
def identOnceSpec : ChangeSpec := { name := "identOnce", fn := fun _ => fun
  | [d] => { results := [.lit (.bool true)], args := [d] }
  | _ => none }
def identOnceRow : OpenClaim := { program := "ytdlnhjdliamfpaa", sum := "426c9e0ecd55ad531182e47fdf0ea2d95a6f018b4093a5cb32128482664a1115", func := "mailcoach/mailcoachlaw10.IdentOnce", spec := "identOnce", inPlace := ["internal/bytealg.IndexByteString", "internal/abi.NoEscape", "internal/bytealg.MakeNoZero", "internal/bytealg.IndexString"], unfollowed := true, recurses := true, named := ["internal/bytealg.MaxLen"], apart := false }
def IdentOnceSaid : Prop := identOnceRow.holds Try.pinned (OpenSpec.ofChange identOnceSpec)

/-- ITS FALSE NEIGHBOUR: 'it returns false'. Refute it at one input. -/
def identOnceWrong : ChangeSpec := { name := "identOnce", fn := fun _ => fun
  | [d] => { results := [.lit (.bool false)], args := [d] }
  | _ => none }
def IdentOnceWrongFalsely : Prop := identOnceRow.holds Try.pinned (OpenSpec.ofChange identOnceWrong)

/-- 'mailcoachlaw10.IdentKnown': WHATEVER THE INPUT: true; the input reads as it did. -/
def identKnownSpec : ChangeSpec := { name := "identKnown", fn := fun _ => fun
  | [d1, d2] => { results := [.lit (.bool true)], args := [d1, d2] }
  | _ => none }
def identKnownRow : OpenClaim := { program := "ytdlnhjdliamfpaa", sum := "426c9e0ecd55ad531182e47fdf0ea2d95a6f018b4093a5cb32128482664a1115", func := "mailcoach/mailcoachlaw10.IdentKnown", spec := "identKnown", inPlace := ["internal/bytealg.IndexByteString", "internal/abi.NoEscape", "internal/bytealg.MakeNoZero", "internal/bytealg.IndexString"], unfollowed := true, recurses := true, named := ["internal/bytealg.MaxLen"], apart := false }
def IdentKnownSaid : Prop := identKnownRow.holds Try.pinned (OpenSpec.ofChange identKnownSpec)

/-- ITS FALSE NEIGHBOUR: 'it returns false'. Refute it at one input. -/
def identKnownWrong : ChangeSpec := { name := "identKnown", fn := fun _ => fun
  | [d1, d2] => { results := [.lit (.bool false)], args := [d1, d2] }
  | _ => none }
def IdentKnownWrongFalsely : Prop := identKnownRow.holds Try.pinned (OpenSpec.ofChange identKnownWrong)

/-- 'mailcoachlaw10.IdentParts': WHATEVER THE INPUT: true; the input reads as it did. -/
def identPartsSpec : ChangeSpec := { name := "identParts", fn := fun _ => fun
  | [d1, d2, d3, d4] => { results := [.lit (.bool true)], args := [d1, d2, d3, d4] }
  | _ => none }
def identPartsRow : OpenClaim := { program := "ytdlnhjdliamfpaa", sum := "426c9e0ecd55ad531182e47fdf0ea2d95a6f018b4093a5cb32128482664a1115", func := "mailcoach/mailcoachlaw10.IdentParts", spec := "identParts", inPlace := ["internal/bytealg.IndexByteString", "internal/abi.NoEscape", "internal/bytealg.MakeNoZero", "internal/bytealg.IndexString"], unfollowed := true, recurses := true, named := ["internal/bytealg.MaxLen"], apart := false }
def IdentPartsSaid : Prop := identPartsRow.holds Try.pinned (OpenSpec.ofChange identPartsSpec)

/-- ITS FALSE NEIGHBOUR: 'it returns false'. Refute it at one input. -/
def identPartsWrong : ChangeSpec := { name := "identParts", fn := fun _ => fun
  | [d1, d2, d3, d4] => { results := [.lit (.bool false)], args := [d1, d2, d3, d4] }
  | _ => none }
def IdentPartsWrongFalsely : Prop := identPartsRow.holds Try.pinned (OpenSpec.ofChange identPartsWrong)

/-- 'mailcoachlaw10.IdentKeys': WHATEVER THE INPUT: true; the input reads as it did. -/
def identKeysSpec : ChangeSpec := { name := "identKeys", fn := fun _ => fun
  | [d1, d2] => { results := [.lit (.bool true)], args := [d1, d2] }
  | _ => none }
def identKeysRow : OpenClaim := { program := "ytdlnhjdliamfpaa", sum := "426c9e0ecd55ad531182e47fdf0ea2d95a6f018b4093a5cb32128482664a1115", func := "mailcoach/mailcoachlaw10.IdentKeys", spec := "identKeys", inPlace := ["internal/bytealg.IndexByteString", "internal/abi.NoEscape", "internal/bytealg.MakeNoZero", "internal/bytealg.IndexString"], unfollowed := true, recurses := true, named := ["internal/bytealg.MaxLen"], apart := false }
def IdentKeysSaid : Prop := identKeysRow.holds Try.pinned (OpenSpec.ofChange identKeysSpec)

/-- ITS FALSE NEIGHBOUR: 'it returns false'. Refute it at one input. -/
def identKeysWrong : ChangeSpec := { name := "identKeys", fn := fun _ => fun
  | [d1, d2] => { results := [.lit (.bool false)], args := [d1, d2] }
  | _ => none }
def IdentKeysWrongFalsely : Prop := identKeysRow.holds Try.pinned (OpenSpec.ofChange identKeysWrong)

/- THE SECOND FORM. 'bulk': how many values and letters a reading holds, each counted each time it is reached (what is shared counts as often as it is met; a slice's spare places count too). A statement '..UptoSaid' is the law's where the arguments, and the package variables that the reading takes, are together of bulk at most 1048576: NARROWER than '..Said'. Prove '..Said' where nothing that the law and all that it calls make is longer than what came in: it says more and counts as full. Else prove '..UptoSaid'. A law counts once. -/
mutual
def uptoBulk {H : Type} : DataW H → Nat
  | .lit (.string bytes) => bytes.length + 1
  | .lit _ => 1
  | .nil => 1
  | .ptr d => uptoBulk d + 1
  | .slice elems spare => uptoBulkAll elems + uptoBulkAll spare + 1
  | .agg parts => uptoBulkAll parts + 1
  | .iface _ d => uptoBulk d + 1
  | .map entries => uptoBulkEntries entries + 1
  | .held _ => 1
def uptoBulkAll {H : Type} : List (DataW H) → Nat
  | [] => 0
  | d :: r => uptoBulk d + uptoBulkAll r
def uptoBulkEntries {H : Type} : List (Lit × DataW H) → Nat
  | [] => 0
  | x :: r => uptoBulkEntry x + uptoBulkEntries r
def uptoBulkEntry {H : Type} : Lit × DataW H → Nat
  | (.string bytes, d) => bytes.length + uptoBulk d + 1
  | (_, d) => uptoBulk d + 1
 end
def uptoSmall : (H : Type) → List (DataW H) → Bool := fun _ ds => decide (uptoBulkAll ds ≤ 1048576)
def OpenSpec.upto (s : _root_.Go.ChangeSpec) : _root_.Go.OpenSpec := { _root_.Go.OpenSpec.ofChange s with cond := some uptoSmall }

/-- 'mailcoachlaw10.IdentTells', WHERE WHAT IT READS IS OF BULK AT MOST 1048576: true; the input reads as it did. -/
def identTellsUptoRow : OpenClaim := { program := "ytdlnhjdliamfpaa", sum := "426c9e0ecd55ad531182e47fdf0ea2d95a6f018b4093a5cb32128482664a1115", func := "mailcoach/mailcoachlaw10.IdentTells", spec := "identTells", inPlace := ["internal/bytealg.IndexByteString", "internal/abi.NoEscape", "internal/bytealg.MakeNoZero", "internal/bytealg.IndexString"], unfollowed := true, recurses := true, named := ["internal/bytealg.MaxLen"], apart := false, narrowed := true }
def IdentTellsUptoSaid : Prop := identTellsUptoRow.holds Try.pinned (OpenSpec.upto identTellsSpec)

/-- 'mailcoachlaw10.IdentOnce', WHERE WHAT IT READS IS OF BULK AT MOST 1048576: true; the input reads as it did. -/
def identOnceUptoRow : OpenClaim := { program := "ytdlnhjdliamfpaa", sum := "426c9e0ecd55ad531182e47fdf0ea2d95a6f018b4093a5cb32128482664a1115", func := "mailcoach/mailcoachlaw10.IdentOnce", spec := "identOnce", inPlace := ["internal/bytealg.IndexByteString", "internal/abi.NoEscape", "internal/bytealg.MakeNoZero", "internal/bytealg.IndexString"], unfollowed := true, recurses := true, named := ["internal/bytealg.MaxLen"], apart := false, narrowed := true }
def IdentOnceUptoSaid : Prop := identOnceUptoRow.holds Try.pinned (OpenSpec.upto identOnceSpec)

/-- 'mailcoachlaw10.IdentKnown', WHERE WHAT IT READS IS OF BULK AT MOST 1048576: true; the input reads as it did. -/
def identKnownUptoRow : OpenClaim := { program := "ytdlnhjdliamfpaa", sum := "426c9e0ecd55ad531182e47fdf0ea2d95a6f018b4093a5cb32128482664a1115", func := "mailcoach/mailcoachlaw10.IdentKnown", spec := "identKnown", inPlace := ["internal/bytealg.IndexByteString", "internal/abi.NoEscape", "internal/bytealg.MakeNoZero", "internal/bytealg.IndexString"], unfollowed := true, recurses := true, named := ["internal/bytealg.MaxLen"], apart := false, narrowed := true }
def IdentKnownUptoSaid : Prop := identKnownUptoRow.holds Try.pinned (OpenSpec.upto identKnownSpec)

/-- 'mailcoachlaw10.IdentParts', WHERE WHAT IT READS IS OF BULK AT MOST 1048576: true; the input reads as it did. -/
def identPartsUptoRow : OpenClaim := { program := "ytdlnhjdliamfpaa", sum := "426c9e0ecd55ad531182e47fdf0ea2d95a6f018b4093a5cb32128482664a1115", func := "mailcoach/mailcoachlaw10.IdentParts", spec := "identParts", inPlace := ["internal/bytealg.IndexByteString", "internal/abi.NoEscape", "internal/bytealg.MakeNoZero", "internal/bytealg.IndexString"], unfollowed := true, recurses := true, named := ["internal/bytealg.MaxLen"], apart := false, narrowed := true }
def IdentPartsUptoSaid : Prop := identPartsUptoRow.holds Try.pinned (OpenSpec.upto identPartsSpec)

/-- 'mailcoachlaw10.IdentKeys', WHERE WHAT IT READS IS OF BULK AT MOST 1048576: true; the input reads as it did. -/
def identKeysUptoRow : OpenClaim := { program := "ytdlnhjdliamfpaa", sum := "426c9e0ecd55ad531182e47fdf0ea2d95a6f018b4093a5cb32128482664a1115", func := "mailcoach/mailcoachlaw10.IdentKeys", spec := "identKeys", inPlace := ["internal/bytealg.IndexByteString", "internal/abi.NoEscape", "internal/bytealg.MakeNoZero", "internal/bytealg.IndexString"], unfollowed := true, recurses := true, named := ["internal/bytealg.MaxLen"], apart := false, narrowed := true }
def IdentKeysUptoSaid : Prop := identKeysUptoRow.holds Try.pinned (OpenSpec.upto identKeysSpec)

end Rows
end Go.Proofs.Ytdlnhjdliamfpaa
