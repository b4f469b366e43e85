/-
  No cell of these rows narrows 'for every input' (looked for: loops, veiled, ifaces, maps, wideKeys, modest, calm, conditions, laid).
  DERIVED. THE GIVEN ROWS OF THIS SEAT. 6 by the template 'for every input the law returns true; each argument reads behind the call as it read before'; 0 by the template 'total and deterministic' (their statements: YtbmcecnplkdejaaTotals.lean).
  GIVEN WITH THE SEED: the statements are not yours to turn. If you find one false, say at which input.
  Laid BY PROGRAM, IN A SANDBOX (cutbox-rows.mjs): the forced cells as the released guide's own fill.sh prints them over the translation c38f6d8568b54006… (all of the seat's roots in one cut). By AI agents, Wed Nov 11 2026. No macro, syntax, notation, axiom, sorry.
-/
import Derived.Test.YtbmcecnplkdejaaChecked
import GoSem.Claim
import GoSem.ClaimJoined
import GoSem.ClaimMapViews
import Derived.JoinedTies
import Derived.KernelRfl
namespace Go.Proofs.Ytbmcecnplkdejaa
/- THE CELL 'sum', in the pinned program and in every row, IS THE sha256 OF THE DUMP (.gsa) THAT YtbmcecnplkdejaaProg.lean LOADS. Nothing in Lean hashes anything: it is a label: what it is worth is what the hold of that sum in a sandbox is worth. -/
noncomputable def Try.pinned : Pinned := { name := "ytbmcecnplkdejaa", sum := "c38f6d8568b54006441838f18c9ad3a729481e225270fd6196f6eca00e555f82", checked := Try.checked }
namespace Rows
def none {H : Type} : Left H := { results := [], args := [] }

/-- 'mailcoachlaw04.LocalTurns': WHATEVER THE INPUT: true; the input reads as it did. -/
def localTurnsSpec : ChangeSpec := { name := "localTurns", fn := fun _ => fun
  | [d1, d2, d3] => { results := [.lit (.bool true)], args := [d1, d2, d3] }
  | _ => none }
def localTurnsRow : OpenClaim := { program := "ytbmcecnplkdejaa", sum := "c38f6d8568b54006441838f18c9ad3a729481e225270fd6196f6eca00e555f82", func := "mailcoach/mailcoachlaw04.LocalTurns", spec := "localTurns", inPlace := ["internal/bytealg.IndexByteString", "internal/bytealg.IndexString"], unfollowed := true, recurses := true, named := ["internal/bytealg.MaxLen"], apart := false }
def LocalTurnsSaid : Prop := localTurnsRow.holds Try.pinned (OpenSpec.ofChange localTurnsSpec)

/-- ITS FALSE NEIGHBOUR: 'it returns false'. Refute it at one input. -/
def localTurnsWrong : ChangeSpec := { name := "localTurns", fn := fun _ => fun
  | [d1, d2, d3] => { results := [.lit (.bool false)], args := [d1, d2, d3] }
  | _ => none }
def LocalTurnsWrongFalsely : Prop := localTurnsRow.holds Try.pinned (OpenSpec.ofChange localTurnsWrong)

/-- 'mailcoachlaw04.LocalTells': WHATEVER THE INPUT: true; the input reads as it did. -/
def localTellsSpec : ChangeSpec := { name := "localTells", fn := fun _ => fun
  | [d1, d2, d3] => { results := [.lit (.bool true)], args := [d1, d2, d3] }
  | _ => none }
def localTellsRow : OpenClaim := { program := "ytbmcecnplkdejaa", sum := "c38f6d8568b54006441838f18c9ad3a729481e225270fd6196f6eca00e555f82", func := "mailcoach/mailcoachlaw04.LocalTells", spec := "localTells", inPlace := ["internal/bytealg.IndexByteString", "internal/bytealg.IndexString"], unfollowed := true, recurses := true, named := ["internal/bytealg.MaxLen"], apart := false }
def LocalTellsSaid : Prop := localTellsRow.holds Try.pinned (OpenSpec.ofChange localTellsSpec)

/-- ITS FALSE NEIGHBOUR: 'it returns false'. Refute it at one input. -/
def localTellsWrong : ChangeSpec := { name := "localTells", fn := fun _ => fun
  | [d1, d2, d3] => { results := [.lit (.bool false)], args := [d1, d2, d3] }
  | _ => none }
def LocalTellsWrongFalsely : Prop := localTellsRow.holds Try.pinned (OpenSpec.ofChange localTellsWrong)

/-- 'mailcoachlaw04.LocalBack': WHATEVER THE INPUT: true; the input reads as it did. -/
def localBackSpec : ChangeSpec := { name := "localBack", fn := fun _ => fun
  | [d1, d2, d3] => { results := [.lit (.bool true)], args := [d1, d2, d3] }
  | _ => none }
def localBackRow : OpenClaim := { program := "ytbmcecnplkdejaa", sum := "c38f6d8568b54006441838f18c9ad3a729481e225270fd6196f6eca00e555f82", func := "mailcoach/mailcoachlaw04.LocalBack", spec := "localBack", inPlace := ["internal/bytealg.IndexByteString", "internal/bytealg.IndexString"], unfollowed := true, recurses := true, named := ["internal/bytealg.MaxLen"], apart := false }
def LocalBackSaid : Prop := localBackRow.holds Try.pinned (OpenSpec.ofChange localBackSpec)

/-- ITS FALSE NEIGHBOUR: 'it returns false'. Refute it at one input. -/
def localBackWrong : ChangeSpec := { name := "localBack", fn := fun _ => fun
  | [d1, d2, d3] => { results := [.lit (.bool false)], args := [d1, d2, d3] }
  | _ => none }
def LocalBackWrongFalsely : Prop := localBackRow.holds Try.pinned (OpenSpec.ofChange localBackWrong)

/-- 'mailcoachlaw04.LocalPlain': WHATEVER THE INPUT: true; the input reads as it did. -/
def localPlainSpec : ChangeSpec := { name := "localPlain", fn := fun _ => fun
  | [d1, d2] => { results := [.lit (.bool true)], args := [d1, d2] }
  | _ => none }
def localPlainRow : OpenClaim := { program := "ytbmcecnplkdejaa", sum := "c38f6d8568b54006441838f18c9ad3a729481e225270fd6196f6eca00e555f82", func := "mailcoach/mailcoachlaw04.LocalPlain", spec := "localPlain", inPlace := ["internal/bytealg.IndexByteString", "internal/bytealg.IndexString"], unfollowed := true, recurses := true, named := ["internal/bytealg.MaxLen"], apart := false }
def LocalPlainSaid : Prop := localPlainRow.holds Try.pinned (OpenSpec.ofChange localPlainSpec)

/-- ITS FALSE NEIGHBOUR: 'it returns false'. Refute it at one input. -/
def localPlainWrong : ChangeSpec := { name := "localPlain", fn := fun _ => fun
  | [d1, d2] => { results := [.lit (.bool false)], args := [d1, d2] }
  | _ => none }
def LocalPlainWrongFalsely : Prop := localPlainRow.holds Try.pinned (OpenSpec.ofChange localPlainWrong)

/-- 'mailcoachlaw04.LocalTurned': WHATEVER THE INPUT: true; the input reads as it did. -/
def localTurnedSpec : ChangeSpec := { name := "localTurned", fn := fun _ => fun
  | [d1, d2] => { results := [.lit (.bool true)], args := [d1, d2] }
  | _ => none }
def localTurnedRow : OpenClaim := { program := "ytbmcecnplkdejaa", sum := "c38f6d8568b54006441838f18c9ad3a729481e225270fd6196f6eca00e555f82", func := "mailcoach/mailcoachlaw04.LocalTurned", spec := "localTurned", inPlace := ["internal/bytealg.IndexByteString", "internal/bytealg.IndexString"], unfollowed := true, recurses := true, named := ["internal/bytealg.MaxLen"], apart := false }
def LocalTurnedSaid : Prop := localTurnedRow.holds Try.pinned (OpenSpec.ofChange localTurnedSpec)

/-- ITS FALSE NEIGHBOUR: 'it returns false'. Refute it at one input. -/
def localTurnedWrong : ChangeSpec := { name := "localTurned", fn := fun _ => fun
  | [d1, d2] => { results := [.lit (.bool false)], args := [d1, d2] }
  | _ => none }
def LocalTurnedWrongFalsely : Prop := localTurnedRow.holds Try.pinned (OpenSpec.ofChange localTurnedWrong)

/-- 'mailcoachlaw04.LocalDays': WHATEVER THE INPUT: true; the input reads as it did. -/
def localDaysSpec : ChangeSpec := { name := "localDays", fn := fun _ => fun
  | [d1, d2] => { results := [.lit (.bool true)], args := [d1, d2] }
  | _ => none }
def localDaysRow : OpenClaim := { program := "ytbmcecnplkdejaa", sum := "c38f6d8568b54006441838f18c9ad3a729481e225270fd6196f6eca00e555f82", func := "mailcoach/mailcoachlaw04.LocalDays", spec := "localDays", inPlace := ["internal/bytealg.IndexByteString", "internal/bytealg.IndexString"], unfollowed := true, recurses := true, named := ["internal/bytealg.MaxLen"], apart := false }
def LocalDaysSaid : Prop := localDaysRow.holds Try.pinned (OpenSpec.ofChange localDaysSpec)

/-- ITS FALSE NEIGHBOUR: 'it returns false'. Refute it at one input. -/
def localDaysWrong : ChangeSpec := { name := "localDays", fn := fun _ => fun
  | [d1, d2] => { results := [.lit (.bool false)], args := [d1, d2] }
  | _ => none }
def LocalDaysWrongFalsely : Prop := localDaysRow.holds Try.pinned (OpenSpec.ofChange localDaysWrong)

/- THE SECOND FORM. 'bulk': how many values and letters a reading holds, each counted each time it is reached (what is shared counts as often as it is met; a slice's spare places count too). A statement '..UptoSaid' is the law's where the arguments, and the package variables that the reading takes, are together of bulk at most 1048576: NARROWER than '..Said'. Prove '..Said' where nothing that the law and all that it calls make is longer than what came in: it says more and counts as full. Else prove '..UptoSaid'. A law counts once. -/
mutual
def uptoBulk {H : Type} : DataW H → Nat
  | .lit (.string bytes) => bytes.length + 1
  | .lit _ => 1
  | .nil => 1
  | .ptr d => uptoBulk d + 1
  | .slice elems spare => uptoBulkAll elems + uptoBulkAll spare + 1
  | .agg parts => uptoBulkAll parts + 1
  | .iface _ d => uptoBulk d + 1
  | .map entries => uptoBulkEntries entries + 1
  | .held _ => 1
def uptoBulkAll {H : Type} : List (DataW H) → Nat
  | [] => 0
  | d :: r => uptoBulk d + uptoBulkAll r
def uptoBulkEntries {H : Type} : List (Lit × DataW H) → Nat
  | [] => 0
  | x :: r => uptoBulkEntry x + uptoBulkEntries r
def uptoBulkEntry {H : Type} : Lit × DataW H → Nat
  | (.string bytes, d) => bytes.length + uptoBulk d + 1
  | (_, d) => uptoBulk d + 1
 end
def uptoSmall : (H : Type) → List (DataW H) → Bool := fun _ ds => decide (uptoBulkAll ds ≤ 1048576)
def OpenSpec.upto (s : _root_.Go.ChangeSpec) : _root_.Go.OpenSpec := { _root_.Go.OpenSpec.ofChange s with cond := some uptoSmall }

/-- 'mailcoachlaw04.LocalTurns', WHERE WHAT IT READS IS OF BULK AT MOST 1048576: true; the input reads as it did. -/
def localTurnsUptoRow : OpenClaim := { program := "ytbmcecnplkdejaa", sum := "c38f6d8568b54006441838f18c9ad3a729481e225270fd6196f6eca00e555f82", func := "mailcoach/mailcoachlaw04.LocalTurns", spec := "localTurns", inPlace := ["internal/bytealg.IndexByteString", "internal/bytealg.IndexString"], unfollowed := true, recurses := true, named := ["internal/bytealg.MaxLen"], apart := false, narrowed := true }
def LocalTurnsUptoSaid : Prop := localTurnsUptoRow.holds Try.pinned (OpenSpec.upto localTurnsSpec)

/-- 'mailcoachlaw04.LocalTells', WHERE WHAT IT READS IS OF BULK AT MOST 1048576: true; the input reads as it did. -/
def localTellsUptoRow : OpenClaim := { program := "ytbmcecnplkdejaa", sum := "c38f6d8568b54006441838f18c9ad3a729481e225270fd6196f6eca00e555f82", func := "mailcoach/mailcoachlaw04.LocalTells", spec := "localTells", inPlace := ["internal/bytealg.IndexByteString", "internal/bytealg.IndexString"], unfollowed := true, recurses := true, named := ["internal/bytealg.MaxLen"], apart := false, narrowed := true }
def LocalTellsUptoSaid : Prop := localTellsUptoRow.holds Try.pinned (OpenSpec.upto localTellsSpec)

/-- 'mailcoachlaw04.LocalBack', WHERE WHAT IT READS IS OF BULK AT MOST 1048576: true; the input reads as it did. -/
def localBackUptoRow : OpenClaim := { program := "ytbmcecnplkdejaa", sum := "c38f6d8568b54006441838f18c9ad3a729481e225270fd6196f6eca00e555f82", func := "mailcoach/mailcoachlaw04.LocalBack", spec := "localBack", inPlace := ["internal/bytealg.IndexByteString", "internal/bytealg.IndexString"], unfollowed := true, recurses := true, named := ["internal/bytealg.MaxLen"], apart := false, narrowed := true }
def LocalBackUptoSaid : Prop := localBackUptoRow.holds Try.pinned (OpenSpec.upto localBackSpec)

/-- 'mailcoachlaw04.LocalPlain', WHERE WHAT IT READS IS OF BULK AT MOST 1048576: true; the input reads as it did. -/
def localPlainUptoRow : OpenClaim := { program := "ytbmcecnplkdejaa", sum := "c38f6d8568b54006441838f18c9ad3a729481e225270fd6196f6eca00e555f82", func := "mailcoach/mailcoachlaw04.LocalPlain", spec := "localPlain", inPlace := ["internal/bytealg.IndexByteString", "internal/bytealg.IndexString"], unfollowed := true, recurses := true, named := ["internal/bytealg.MaxLen"], apart := false, narrowed := true }
def LocalPlainUptoSaid : Prop := localPlainUptoRow.holds Try.pinned (OpenSpec.upto localPlainSpec)

/-- 'mailcoachlaw04.LocalTurned', WHERE WHAT IT READS IS OF BULK AT MOST 1048576: true; the input reads as it did. -/
def localTurnedUptoRow : OpenClaim := { program := "ytbmcecnplkdejaa", sum := "c38f6d8568b54006441838f18c9ad3a729481e225270fd6196f6eca00e555f82", func := "mailcoach/mailcoachlaw04.LocalTurned", spec := "localTurned", inPlace := ["internal/bytealg.IndexByteString", "internal/bytealg.IndexString"], unfollowed := true, recurses := true, named := ["internal/bytealg.MaxLen"], apart := false, narrowed := true }
def LocalTurnedUptoSaid : Prop := localTurnedUptoRow.holds Try.pinned (OpenSpec.upto localTurnedSpec)

/-- 'mailcoachlaw04.LocalDays', WHERE WHAT IT READS IS OF BULK AT MOST 1048576: true; the input reads as it did. -/
def localDaysUptoRow : OpenClaim := { program := "ytbmcecnplkdejaa", sum := "c38f6d8568b54006441838f18c9ad3a729481e225270fd6196f6eca00e555f82", func := "mailcoach/mailcoachlaw04.LocalDays", spec := "localDays", inPlace := ["internal/bytealg.IndexByteString", "internal/bytealg.IndexString"], unfollowed := true, recurses := true, named := ["internal/bytealg.MaxLen"], apart := false, narrowed := true }
def LocalDaysUptoSaid : Prop := localDaysUptoRow.holds Try.pinned (OpenSpec.upto localDaysSpec)

end Rows
end Go.Proofs.Ytbmcecnplkdejaa
