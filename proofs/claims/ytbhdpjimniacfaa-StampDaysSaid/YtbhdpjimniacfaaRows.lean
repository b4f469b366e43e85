/-
  No cell of these rows narrows 'for every input' (looked for: loops, veiled, ifaces, maps, wideKeys, modest, calm, conditions, laid).
  DERIVED. THE GIVEN ROWS OF THIS SEAT. 8 by the template 'for every input the law returns true; each argument reads behind the call as it read before'; 0 by the template 'total and deterministic' (their statements: YtbhdpjimniacfaaTotals.lean).
  GIVEN WITH THE SEED: the statements are not yours to turn. If you find one false, say at which input.
  Laid BY PROGRAM, IN A SANDBOX (cutbox-rows.mjs): the forced cells as the released guide's own fill.sh prints them over the translation 795acf3ebf3529d1… (all of the seat's roots in one cut). By AI agents, Wed Nov 11 2026. No macro, syntax, notation, axiom, sorry.
-/
import Derived.Test.YtbhdpjimniacfaaChecked
import GoSem.Claim
import GoSem.ClaimJoined
import GoSem.ClaimMapViews
import Derived.JoinedTies
import Derived.KernelRfl
namespace Go.Proofs.Ytbhdpjimniacfaa
/- THE CELL 'sum', in the pinned program and in every row, IS THE sha256 OF THE DUMP (.gsa) THAT YtbhdpjimniacfaaProg.lean LOADS. Nothing in Lean hashes anything: it is a label: what it is worth is what the hold of that sum in a sandbox is worth. -/
noncomputable def Try.pinned : Pinned := { name := "ytbhdpjimniacfaa", sum := "795acf3ebf3529d1d5d3e9a0605548d4fe8e917bf700623e5814590b75317632", checked := Try.checked }
namespace Rows
def none {H : Type} : Left H := { results := [], args := [] }

/-- 'mailcoachlaw02.StampTells': WHATEVER THE INPUT: true; the input reads as it did. -/
def stampTellsSpec : ChangeSpec := { name := "stampTells", fn := fun _ => fun
  | [d1, d2] => { results := [.lit (.bool true)], args := [d1, d2] }
  | _ => none }
def stampTellsRow : OpenClaim := { program := "ytbhdpjimniacfaa", sum := "795acf3ebf3529d1d5d3e9a0605548d4fe8e917bf700623e5814590b75317632", func := "mailcoach/mailcoachlaw02.StampTells", spec := "stampTells", inPlace := ["internal/bytealg.IndexByteString", "internal/bytealg.IndexString"], unfollowed := true, recurses := true, named := ["internal/bytealg.MaxLen"], apart := false }
def StampTellsSaid : Prop := stampTellsRow.holds Try.pinned (OpenSpec.ofChange stampTellsSpec)

/-- ITS FALSE NEIGHBOUR: 'it returns false'. Refute it at one input. -/
def stampTellsWrong : ChangeSpec := { name := "stampTells", fn := fun _ => fun
  | [d1, d2] => { results := [.lit (.bool false)], args := [d1, d2] }
  | _ => none }
def StampTellsWrongFalsely : Prop := stampTellsRow.holds Try.pinned (OpenSpec.ofChange stampTellsWrong)

/-- 'mailcoachlaw02.StampWrites': WHATEVER THE INPUT: true; the input reads as it did. -/
def stampWritesSpec : ChangeSpec := { name := "stampWrites", fn := fun _ => fun
  | [d1, d2] => { results := [.lit (.bool true)], args := [d1, d2] }
  | _ => none }
def stampWritesRow : OpenClaim := { program := "ytbhdpjimniacfaa", sum := "795acf3ebf3529d1d5d3e9a0605548d4fe8e917bf700623e5814590b75317632", func := "mailcoach/mailcoachlaw02.StampWrites", spec := "stampWrites", inPlace := ["internal/bytealg.IndexByteString", "internal/bytealg.IndexString"], unfollowed := true, recurses := true, named := ["internal/bytealg.MaxLen"], apart := false }
def StampWritesSaid : Prop := stampWritesRow.holds Try.pinned (OpenSpec.ofChange stampWritesSpec)

/-- ITS FALSE NEIGHBOUR: 'it returns false'. Refute it at one input. -/
def stampWritesWrong : ChangeSpec := { name := "stampWrites", fn := fun _ => fun
  | [d1, d2] => { results := [.lit (.bool false)], args := [d1, d2] }
  | _ => none }
def StampWritesWrongFalsely : Prop := stampWritesRow.holds Try.pinned (OpenSpec.ofChange stampWritesWrong)

/-- 'mailcoachlaw02.StampParses': WHATEVER THE INPUT: true; the input reads as it did. -/
def stampParsesSpec : ChangeSpec := { name := "stampParses", fn := fun _ => fun
  | [d] => { results := [.lit (.bool true)], args := [d] }
  | _ => none }
def stampParsesRow : OpenClaim := { program := "ytbhdpjimniacfaa", sum := "795acf3ebf3529d1d5d3e9a0605548d4fe8e917bf700623e5814590b75317632", func := "mailcoach/mailcoachlaw02.StampParses", spec := "stampParses", inPlace := ["internal/bytealg.IndexByteString", "internal/bytealg.IndexString"], unfollowed := true, recurses := true, named := ["internal/bytealg.MaxLen"], apart := false }
def StampParsesSaid : Prop := stampParsesRow.holds Try.pinned (OpenSpec.ofChange stampParsesSpec)

/-- ITS FALSE NEIGHBOUR: 'it returns false'. Refute it at one input. -/
def stampParsesWrong : ChangeSpec := { name := "stampParses", fn := fun _ => fun
  | [d] => { results := [.lit (.bool false)], args := [d] }
  | _ => none }
def StampParsesWrongFalsely : Prop := stampParsesRow.holds Try.pinned (OpenSpec.ofChange stampParsesWrong)

/-- 'mailcoachlaw02.StampBack': WHATEVER THE INPUT: true; the input reads as it did. -/
def stampBackSpec : ChangeSpec := { name := "stampBack", fn := fun _ => fun
  | [d1, d2] => { results := [.lit (.bool true)], args := [d1, d2] }
  | _ => none }
def stampBackRow : OpenClaim := { program := "ytbhdpjimniacfaa", sum := "795acf3ebf3529d1d5d3e9a0605548d4fe8e917bf700623e5814590b75317632", func := "mailcoach/mailcoachlaw02.StampBack", spec := "stampBack", inPlace := ["internal/bytealg.IndexByteString", "internal/bytealg.IndexString"], unfollowed := true, recurses := true, named := ["internal/bytealg.MaxLen"], apart := false }
def StampBackSaid : Prop := stampBackRow.holds Try.pinned (OpenSpec.ofChange stampBackSpec)

/-- ITS FALSE NEIGHBOUR: 'it returns false'. Refute it at one input. -/
def stampBackWrong : ChangeSpec := { name := "stampBack", fn := fun _ => fun
  | [d1, d2] => { results := [.lit (.bool false)], args := [d1, d2] }
  | _ => none }
def StampBackWrongFalsely : Prop := stampBackRow.holds Try.pinned (OpenSpec.ofChange stampBackWrong)

/-- 'mailcoachlaw02.StampRises': WHATEVER THE INPUT: true; the input reads as it did. -/
def stampRisesSpec : ChangeSpec := { name := "stampRises", fn := fun _ => fun
  | [d1, d2] => { results := [.lit (.bool true)], args := [d1, d2] }
  | _ => none }
def stampRisesRow : OpenClaim := { program := "ytbhdpjimniacfaa", sum := "795acf3ebf3529d1d5d3e9a0605548d4fe8e917bf700623e5814590b75317632", func := "mailcoach/mailcoachlaw02.StampRises", spec := "stampRises", inPlace := ["internal/bytealg.IndexByteString", "internal/bytealg.IndexString"], unfollowed := true, recurses := true, named := ["internal/bytealg.MaxLen"], apart := false }
def StampRisesSaid : Prop := stampRisesRow.holds Try.pinned (OpenSpec.ofChange stampRisesSpec)

/-- ITS FALSE NEIGHBOUR: 'it returns false'. Refute it at one input. -/
def stampRisesWrong : ChangeSpec := { name := "stampRises", fn := fun _ => fun
  | [d1, d2] => { results := [.lit (.bool false)], args := [d1, d2] }
  | _ => none }
def StampRisesWrongFalsely : Prop := stampRisesRow.holds Try.pinned (OpenSpec.ofChange stampRisesWrong)

/-- 'mailcoachlaw02.StampZones': WHATEVER THE INPUT: true; the input reads as it did. -/
def stampZonesSpec : ChangeSpec := { name := "stampZones", fn := fun _ => fun
  | [d1, d2, d3, d4] => { results := [.lit (.bool true)], args := [d1, d2, d3, d4] }
  | _ => none }
def stampZonesRow : OpenClaim := { program := "ytbhdpjimniacfaa", sum := "795acf3ebf3529d1d5d3e9a0605548d4fe8e917bf700623e5814590b75317632", func := "mailcoach/mailcoachlaw02.StampZones", spec := "stampZones", inPlace := ["internal/bytealg.IndexByteString", "internal/bytealg.IndexString"], unfollowed := true, recurses := true, named := ["internal/bytealg.MaxLen"], apart := false }
def StampZonesSaid : Prop := stampZonesRow.holds Try.pinned (OpenSpec.ofChange stampZonesSpec)

/-- ITS FALSE NEIGHBOUR: 'it returns false'. Refute it at one input. -/
def stampZonesWrong : ChangeSpec := { name := "stampZones", fn := fun _ => fun
  | [d1, d2, d3, d4] => { results := [.lit (.bool false)], args := [d1, d2, d3, d4] }
  | _ => none }
def StampZonesWrongFalsely : Prop := stampZonesRow.holds Try.pinned (OpenSpec.ofChange stampZonesWrong)

/-- 'mailcoachlaw02.StampMails': WHATEVER THE INPUT: true; the input reads as it did. -/
def stampMailsSpec : ChangeSpec := { name := "stampMails", fn := fun _ => fun
  | [d1, d2] => { results := [.lit (.bool true)], args := [d1, d2] }
  | _ => none }
def stampMailsRow : OpenClaim := { program := "ytbhdpjimniacfaa", sum := "795acf3ebf3529d1d5d3e9a0605548d4fe8e917bf700623e5814590b75317632", func := "mailcoach/mailcoachlaw02.StampMails", spec := "stampMails", inPlace := ["internal/bytealg.IndexByteString", "internal/bytealg.IndexString"], unfollowed := true, recurses := true, named := ["internal/bytealg.MaxLen"], apart := false }
def StampMailsSaid : Prop := stampMailsRow.holds Try.pinned (OpenSpec.ofChange stampMailsSpec)

/-- ITS FALSE NEIGHBOUR: 'it returns false'. Refute it at one input. -/
def stampMailsWrong : ChangeSpec := { name := "stampMails", fn := fun _ => fun
  | [d1, d2] => { results := [.lit (.bool false)], args := [d1, d2] }
  | _ => none }
def StampMailsWrongFalsely : Prop := stampMailsRow.holds Try.pinned (OpenSpec.ofChange stampMailsWrong)

/-- 'mailcoachlaw02.StampDays': WHATEVER THE INPUT: true; the input reads as it did. -/
def stampDaysSpec : ChangeSpec := { name := "stampDays", fn := fun _ => fun
  | [d] => { results := [.lit (.bool true)], args := [d] }
  | _ => none }
def stampDaysRow : OpenClaim := { program := "ytbhdpjimniacfaa", sum := "795acf3ebf3529d1d5d3e9a0605548d4fe8e917bf700623e5814590b75317632", func := "mailcoach/mailcoachlaw02.StampDays", spec := "stampDays", inPlace := ["internal/bytealg.IndexByteString", "internal/bytealg.IndexString"], unfollowed := true, recurses := true, named := ["internal/bytealg.MaxLen"], apart := false }
def StampDaysSaid : Prop := stampDaysRow.holds Try.pinned (OpenSpec.ofChange stampDaysSpec)

/-- ITS FALSE NEIGHBOUR: 'it returns false'. Refute it at one input. -/
def stampDaysWrong : ChangeSpec := { name := "stampDays", fn := fun _ => fun
  | [d] => { results := [.lit (.bool false)], args := [d] }
  | _ => none }
def StampDaysWrongFalsely : Prop := stampDaysRow.holds Try.pinned (OpenSpec.ofChange stampDaysWrong)

/- THE SECOND FORM. 'bulk': how many values and letters a reading holds, each counted each time it is reached (what is shared counts as often as it is met; a slice's spare places count too). A statement '..UptoSaid' is the law's where the arguments, and the package variables that the reading takes, are together of bulk at most 1048576: NARROWER than '..Said'. Prove '..Said' where nothing that the law and all that it calls make is longer than what came in: it says more and counts as full. Else prove '..UptoSaid'. A law counts once. -/
mutual
def uptoBulk {H : Type} : DataW H → Nat
  | .lit (.string bytes) => bytes.length + 1
  | .lit _ => 1
  | .nil => 1
  | .ptr d => uptoBulk d + 1
  | .slice elems spare => uptoBulkAll elems + uptoBulkAll spare + 1
  | .agg parts => uptoBulkAll parts + 1
  | .iface _ d => uptoBulk d + 1
  | .map entries => uptoBulkEntries entries + 1
  | .held _ => 1
def uptoBulkAll {H : Type} : List (DataW H) → Nat
  | [] => 0
  | d :: r => uptoBulk d + uptoBulkAll r
def uptoBulkEntries {H : Type} : List (Lit × DataW H) → Nat
  | [] => 0
  | x :: r => uptoBulkEntry x + uptoBulkEntries r
def uptoBulkEntry {H : Type} : Lit × DataW H → Nat
  | (.string bytes, d) => bytes.length + uptoBulk d + 1
  | (_, d) => uptoBulk d + 1
 end
def uptoSmall : (H : Type) → List (DataW H) → Bool := fun _ ds => decide (uptoBulkAll ds ≤ 1048576)
def OpenSpec.upto (s : _root_.Go.ChangeSpec) : _root_.Go.OpenSpec := { _root_.Go.OpenSpec.ofChange s with cond := some uptoSmall }

/-- 'mailcoachlaw02.StampTells', WHERE WHAT IT READS IS OF BULK AT MOST 1048576: true; the input reads as it did. -/
def stampTellsUptoRow : OpenClaim := { program := "ytbhdpjimniacfaa", sum := "795acf3ebf3529d1d5d3e9a0605548d4fe8e917bf700623e5814590b75317632", func := "mailcoach/mailcoachlaw02.StampTells", spec := "stampTells", inPlace := ["internal/bytealg.IndexByteString", "internal/bytealg.IndexString"], unfollowed := true, recurses := true, named := ["internal/bytealg.MaxLen"], apart := false, narrowed := true }
def StampTellsUptoSaid : Prop := stampTellsUptoRow.holds Try.pinned (OpenSpec.upto stampTellsSpec)

/-- 'mailcoachlaw02.StampWrites', WHERE WHAT IT READS IS OF BULK AT MOST 1048576: true; the input reads as it did. -/
def stampWritesUptoRow : OpenClaim := { program := "ytbhdpjimniacfaa", sum := "795acf3ebf3529d1d5d3e9a0605548d4fe8e917bf700623e5814590b75317632", func := "mailcoach/mailcoachlaw02.StampWrites", spec := "stampWrites", inPlace := ["internal/bytealg.IndexByteString", "internal/bytealg.IndexString"], unfollowed := true, recurses := true, named := ["internal/bytealg.MaxLen"], apart := false, narrowed := true }
def StampWritesUptoSaid : Prop := stampWritesUptoRow.holds Try.pinned (OpenSpec.upto stampWritesSpec)

/-- 'mailcoachlaw02.StampParses', WHERE WHAT IT READS IS OF BULK AT MOST 1048576: true; the input reads as it did. -/
def stampParsesUptoRow : OpenClaim := { program := "ytbhdpjimniacfaa", sum := "795acf3ebf3529d1d5d3e9a0605548d4fe8e917bf700623e5814590b75317632", func := "mailcoach/mailcoachlaw02.StampParses", spec := "stampParses", inPlace := ["internal/bytealg.IndexByteString", "internal/bytealg.IndexString"], unfollowed := true, recurses := true, named := ["internal/bytealg.MaxLen"], apart := false, narrowed := true }
def StampParsesUptoSaid : Prop := stampParsesUptoRow.holds Try.pinned (OpenSpec.upto stampParsesSpec)

/-- 'mailcoachlaw02.StampBack', WHERE WHAT IT READS IS OF BULK AT MOST 1048576: true; the input reads as it did. -/
def stampBackUptoRow : OpenClaim := { program := "ytbhdpjimniacfaa", sum := "795acf3ebf3529d1d5d3e9a0605548d4fe8e917bf700623e5814590b75317632", func := "mailcoach/mailcoachlaw02.StampBack", spec := "stampBack", inPlace := ["internal/bytealg.IndexByteString", "internal/bytealg.IndexString"], unfollowed := true, recurses := true, named := ["internal/bytealg.MaxLen"], apart := false, narrowed := true }
def StampBackUptoSaid : Prop := stampBackUptoRow.holds Try.pinned (OpenSpec.upto stampBackSpec)

/-- 'mailcoachlaw02.StampRises', WHERE WHAT IT READS IS OF BULK AT MOST 1048576: true; the input reads as it did. -/
def stampRisesUptoRow : OpenClaim := { program := "ytbhdpjimniacfaa", sum := "795acf3ebf3529d1d5d3e9a0605548d4fe8e917bf700623e5814590b75317632", func := "mailcoach/mailcoachlaw02.StampRises", spec := "stampRises", inPlace := ["internal/bytealg.IndexByteString", "internal/bytealg.IndexString"], unfollowed := true, recurses := true, named := ["internal/bytealg.MaxLen"], apart := false, narrowed := true }
def StampRisesUptoSaid : Prop := stampRisesUptoRow.holds Try.pinned (OpenSpec.upto stampRisesSpec)

/-- 'mailcoachlaw02.StampZones', WHERE WHAT IT READS IS OF BULK AT MOST 1048576: true; the input reads as it did. -/
def stampZonesUptoRow : OpenClaim := { program := "ytbhdpjimniacfaa", sum := "795acf3ebf3529d1d5d3e9a0605548d4fe8e917bf700623e5814590b75317632", func := "mailcoach/mailcoachlaw02.StampZones", spec := "stampZones", inPlace := ["internal/bytealg.IndexByteString", "internal/bytealg.IndexString"], unfollowed := true, recurses := true, named := ["internal/bytealg.MaxLen"], apart := false, narrowed := true }
def StampZonesUptoSaid : Prop := stampZonesUptoRow.holds Try.pinned (OpenSpec.upto stampZonesSpec)

/-- 'mailcoachlaw02.StampMails', WHERE WHAT IT READS IS OF BULK AT MOST 1048576: true; the input reads as it did. -/
def stampMailsUptoRow : OpenClaim := { program := "ytbhdpjimniacfaa", sum := "795acf3ebf3529d1d5d3e9a0605548d4fe8e917bf700623e5814590b75317632", func := "mailcoach/mailcoachlaw02.StampMails", spec := "stampMails", inPlace := ["internal/bytealg.IndexByteString", "internal/bytealg.IndexString"], unfollowed := true, recurses := true, named := ["internal/bytealg.MaxLen"], apart := false, narrowed := true }
def StampMailsUptoSaid : Prop := stampMailsUptoRow.holds Try.pinned (OpenSpec.upto stampMailsSpec)

/-- 'mailcoachlaw02.StampDays', WHERE WHAT IT READS IS OF BULK AT MOST 1048576: true; the input reads as it did. -/
def stampDaysUptoRow : OpenClaim := { program := "ytbhdpjimniacfaa", sum := "795acf3ebf3529d1d5d3e9a0605548d4fe8e917bf700623e5814590b75317632", func := "mailcoach/mailcoachlaw02.StampDays", spec := "stampDays", inPlace := ["internal/bytealg.IndexByteString", "internal/bytealg.IndexString"], unfollowed := true, recurses := true, named := ["internal/bytealg.MaxLen"], apart := false, narrowed := true }
def StampDaysUptoSaid : Prop := stampDaysUptoRow.holds Try.pinned (OpenSpec.upto stampDaysSpec)

end Rows
end Go.Proofs.Ytbhdpjimniacfaa
