/-
  NARROWER THAN 'FOR EVERY INPUT', by the rows' own cells (each row's printed sentence says how): RatTells: laid · RankTells: laid · RankSorts: laid · RankScale: laid · RankFirst: laid · KeepFirst: laid · KeepCuts: laid · RankOrder: laid · KeepStays: laid · KeepMerges: laid · NatWide: laid · ApproxExact: laid · ApproxWhole: laid.
  DERIVED. THE GIVEN ROWS OF THIS SEAT. 13 by the template 'for every input the law returns true; each argument reads behind the call as it read before'; 0 by the template 'total and deterministic' (their statements: YtakickbnjbedfaaDoorTotals.lean).
  GIVEN WITH THE SEED: the statements are not yours to turn. If you find one false, say at which input.
  Laid BY PROGRAM, IN A SANDBOX (cutbox-rows.mjs): the forced cells as the released guide's own fill.sh prints them over the translation e8521ef5b0078e0e… (all of the seat's roots in one cut). By AI agents, Wed Nov 11 2026. No macro, syntax, notation, axiom, sorry.
-/
import Derived.Test.YtakickbnjbedfaaDoorChecked
import GoSem.PinnedTables
import GoSem.Claim
import GoSem.ClaimJoined
import GoSem.ClaimMapViews
import Derived.JoinedTies
import Derived.KernelRfl
namespace Go.Proofs.YtakickbnjbedfaaDoor
/- THE CELL 'sum', in the pinned program and in every row, IS THE sha256 OF THE DUMP (.gsa) THAT YtakickbnjbedfaaDoorProg.lean LOADS. Nothing in Lean hashes anything: it is a label: what it is worth is what the hold of that sum in a sandbox is worth. -/
noncomputable def Tryd.pinned : Pinned := { name := "ytakickbnjbedfaadoor", sum := "e8521ef5b0078e0e12856243a4ba15521eb8466678f5ac8012175039290f3f67", checked := Tryd.checked }
namespace Rows
def none {H : Type} : Left H := { results := [], args := [] }

/- WHAT THE LISTED PACKAGE-LEVEL VARIABLES READ AS WHEN THE CALL BEGINS. Each datum BY PROGRAM (the guide's laid-datum.mjs) off the statement by which the dump's own 'gosem.cut.vars' lays the variable. In a bare row this is a premise. The card (YtakickbnjbedfaaDoorCards.lean) ties it to the program's text. -/
def laid_unicode_utf8_acceptRanges {H : Type} : DataW H := .agg [.agg [.lit (.int .u8 128), .lit (.int .u8 191)], .agg [.lit (.int .u8 160), .lit (.int .u8 191)], .agg [.lit (.int .u8 128), .lit (.int .u8 159)], .agg [.lit (.int .u8 144), .lit (.int .u8 191)], .agg [.lit (.int .u8 128), .lit (.int .u8 143)], .agg [.lit (.int .u8 0), .lit (.int .u8 0)], .agg [.lit (.int .u8 0), .lit (.int .u8 0)], .agg [.lit (.int .u8 0), .lit (.int .u8 0)], .agg [.lit (.int .u8 0), .lit (.int .u8 0)], .agg [.lit (.int .u8 0), .lit (.int .u8 0)], .agg [.lit (.int .u8 0), .lit (.int .u8 0)], .agg [.lit (.int .u8 0), .lit (.int .u8 0)], .agg [.lit (.int .u8 0), .lit (.int .u8 0)], .agg [.lit (.int .u8 0), .lit (.int .u8 0)], .agg [.lit (.int .u8 0), .lit (.int .u8 0)], .agg [.lit (.int .u8 0), .lit (.int .u8 0)]]
/-- One of Go's own tables, pinned by name: the form's constant. -/
def laid_unicode_utf8_first : DataW Unit := Go.Pinned.utf8First

/-- 'samphirelaw03.RatTells': WHATEVER THE INPUT: true; the input reads as it did. -/
def ratTellsSpec : ChangeSpec := { name := "ratTells", fn := fun _ => fun
  | [d1, d2] => { results := [.lit (.bool true)], args := [d1, d2] }
  | _ => none }
def ratTellsRow : OpenClaim := { program := "ytakickbnjbedfaadoor", sum := "e8521ef5b0078e0e12856243a4ba15521eb8466678f5ac8012175039290f3f67", func := "samphire/samphirelaw03.RatTells", spec := "ratTells", inPlace := ["internal/bytealg.IndexByteString", "internal/bytealg.IndexString"], unfollowed := true, recurses := true, named := ["unicode/utf8.first", "unicode/utf8.acceptRanges", "internal/bytealg.MaxLen"], apart := false, laid := [("unicode/utf8.acceptRanges", laid_unicode_utf8_acceptRanges), ("unicode/utf8.first", laid_unicode_utf8_first)] }
def RatTellsSaid : Prop := ratTellsRow.holds Tryd.pinned (OpenSpec.ofChange ratTellsSpec)

/-- ITS FALSE NEIGHBOUR: 'it returns false'. Refute it at one input. -/
def ratTellsWrong : ChangeSpec := { name := "ratTells", fn := fun _ => fun
  | [d1, d2] => { results := [.lit (.bool false)], args := [d1, d2] }
  | _ => none }
def RatTellsWrongFalsely : Prop := ratTellsRow.holds Tryd.pinned (OpenSpec.ofChange ratTellsWrong)

/-- 'samphirelaw10.RankTells': WHATEVER THE INPUT: true; the input reads as it did. -/
def rankTellsSpec : ChangeSpec := { name := "rankTells", fn := fun _ => fun
  | [d1, d2] => { results := [.lit (.bool true)], args := [d1, d2] }
  | _ => none }
def rankTellsRow : OpenClaim := { program := "ytakickbnjbedfaadoor", sum := "e8521ef5b0078e0e12856243a4ba15521eb8466678f5ac8012175039290f3f67", func := "samphire/samphirelaw10.RankTells", spec := "rankTells", inPlace := ["internal/bytealg.abigen_runtime_cmpstring", "internal/bytealg.IndexByteString", "internal/bytealg.IndexString"], unfollowed := true, recurses := true, named := ["unicode/utf8.first", "unicode/utf8.acceptRanges", "internal/bytealg.MaxLen"], apart := false, laid := [("unicode/utf8.acceptRanges", laid_unicode_utf8_acceptRanges), ("unicode/utf8.first", laid_unicode_utf8_first)] }
def RankTellsSaid : Prop := rankTellsRow.holds Tryd.pinned (OpenSpec.ofChange rankTellsSpec)

/-- ITS FALSE NEIGHBOUR: 'it returns false'. Refute it at one input. -/
def rankTellsWrong : ChangeSpec := { name := "rankTells", fn := fun _ => fun
  | [d1, d2] => { results := [.lit (.bool false)], args := [d1, d2] }
  | _ => none }
def RankTellsWrongFalsely : Prop := rankTellsRow.holds Tryd.pinned (OpenSpec.ofChange rankTellsWrong)

/-- 'samphirelaw10.RankSorts': WHATEVER THE INPUT: true; the input reads as it did. -/
def rankSortsSpec : ChangeSpec := { name := "rankSorts", fn := fun _ => fun
  | [d1, d2] => { results := [.lit (.bool true)], args := [d1, d2] }
  | _ => none }
def rankSortsRow : OpenClaim := { program := "ytakickbnjbedfaadoor", sum := "e8521ef5b0078e0e12856243a4ba15521eb8466678f5ac8012175039290f3f67", func := "samphire/samphirelaw10.RankSorts", spec := "rankSorts", inPlace := ["internal/bytealg.abigen_runtime_cmpstring", "internal/bytealg.IndexByteString", "internal/bytealg.IndexString"], unfollowed := true, recurses := true, named := ["unicode/utf8.first", "unicode/utf8.acceptRanges", "internal/bytealg.MaxLen"], apart := false, laid := [("unicode/utf8.acceptRanges", laid_unicode_utf8_acceptRanges), ("unicode/utf8.first", laid_unicode_utf8_first)] }
def RankSortsSaid : Prop := rankSortsRow.holds Tryd.pinned (OpenSpec.ofChange rankSortsSpec)

/-- ITS FALSE NEIGHBOUR: 'it returns false'. Refute it at one input. -/
def rankSortsWrong : ChangeSpec := { name := "rankSorts", fn := fun _ => fun
  | [d1, d2] => { results := [.lit (.bool false)], args := [d1, d2] }
  | _ => none }
def RankSortsWrongFalsely : Prop := rankSortsRow.holds Tryd.pinned (OpenSpec.ofChange rankSortsWrong)

/-- 'samphirelaw10.RankScale': WHATEVER THE INPUT: true; the input reads as it did. -/
def rankScaleSpec : ChangeSpec := { name := "rankScale", fn := fun _ => fun
  | [d1, d2, d3] => { results := [.lit (.bool true)], args := [d1, d2, d3] }
  | _ => none }
def rankScaleRow : OpenClaim := { program := "ytakickbnjbedfaadoor", sum := "e8521ef5b0078e0e12856243a4ba15521eb8466678f5ac8012175039290f3f67", func := "samphire/samphirelaw10.RankScale", spec := "rankScale", inPlace := ["internal/bytealg.abigen_runtime_cmpstring", "internal/bytealg.IndexByteString", "internal/bytealg.IndexString"], unfollowed := true, recurses := true, named := ["unicode/utf8.first", "unicode/utf8.acceptRanges", "internal/bytealg.MaxLen"], apart := false, laid := [("unicode/utf8.acceptRanges", laid_unicode_utf8_acceptRanges), ("unicode/utf8.first", laid_unicode_utf8_first)] }
def RankScaleSaid : Prop := rankScaleRow.holds Tryd.pinned (OpenSpec.ofChange rankScaleSpec)

/-- ITS FALSE NEIGHBOUR: 'it returns false'. Refute it at one input. -/
def rankScaleWrong : ChangeSpec := { name := "rankScale", fn := fun _ => fun
  | [d1, d2, d3] => { results := [.lit (.bool false)], args := [d1, d2, d3] }
  | _ => none }
def RankScaleWrongFalsely : Prop := rankScaleRow.holds Tryd.pinned (OpenSpec.ofChange rankScaleWrong)

/-- 'samphirelaw10.RankFirst': WHATEVER THE INPUT: true; the input reads as it did. -/
def rankFirstSpec : ChangeSpec := { name := "rankFirst", fn := fun _ => fun
  | [d1, d2] => { results := [.lit (.bool true)], args := [d1, d2] }
  | _ => none }
def rankFirstRow : OpenClaim := { program := "ytakickbnjbedfaadoor", sum := "e8521ef5b0078e0e12856243a4ba15521eb8466678f5ac8012175039290f3f67", func := "samphire/samphirelaw10.RankFirst", spec := "rankFirst", inPlace := ["internal/bytealg.abigen_runtime_cmpstring", "internal/bytealg.IndexByteString", "internal/bytealg.IndexString"], unfollowed := true, recurses := true, named := ["unicode/utf8.first", "unicode/utf8.acceptRanges", "internal/bytealg.MaxLen"], apart := false, laid := [("unicode/utf8.acceptRanges", laid_unicode_utf8_acceptRanges), ("unicode/utf8.first", laid_unicode_utf8_first)] }
def RankFirstSaid : Prop := rankFirstRow.holds Tryd.pinned (OpenSpec.ofChange rankFirstSpec)

/-- ITS FALSE NEIGHBOUR: 'it returns false'. Refute it at one input. -/
def rankFirstWrong : ChangeSpec := { name := "rankFirst", fn := fun _ => fun
  | [d1, d2] => { results := [.lit (.bool false)], args := [d1, d2] }
  | _ => none }
def RankFirstWrongFalsely : Prop := rankFirstRow.holds Tryd.pinned (OpenSpec.ofChange rankFirstWrong)

/-- 'samphirelaw13.KeepFirst': WHATEVER THE INPUT: true; the input reads as it did. -/
def keepFirstSpec : ChangeSpec := { name := "keepFirst", fn := fun _ => fun
  | [d1, d2] => { results := [.lit (.bool true)], args := [d1, d2] }
  | _ => none }
def keepFirstRow : OpenClaim := { program := "ytakickbnjbedfaadoor", sum := "e8521ef5b0078e0e12856243a4ba15521eb8466678f5ac8012175039290f3f67", func := "samphire/samphirelaw13.KeepFirst", spec := "keepFirst", inPlace := ["internal/bytealg.abigen_runtime_cmpstring", "slices.overlaps[samphire/api.Item]", "internal/bytealg.IndexByteString", "internal/bytealg.IndexString"], unfollowed := true, recurses := true, named := ["unicode/utf8.first", "unicode/utf8.acceptRanges", "internal/bytealg.MaxLen"], apart := false, laid := [("unicode/utf8.acceptRanges", laid_unicode_utf8_acceptRanges), ("unicode/utf8.first", laid_unicode_utf8_first)] }
def KeepFirstSaid : Prop := keepFirstRow.holds Tryd.pinned (OpenSpec.ofChange keepFirstSpec)

/-- ITS FALSE NEIGHBOUR: 'it returns false'. Refute it at one input. -/
def keepFirstWrong : ChangeSpec := { name := "keepFirst", fn := fun _ => fun
  | [d1, d2] => { results := [.lit (.bool false)], args := [d1, d2] }
  | _ => none }
def KeepFirstWrongFalsely : Prop := keepFirstRow.holds Tryd.pinned (OpenSpec.ofChange keepFirstWrong)

/-- 'samphirelaw13.KeepCuts': WHATEVER THE INPUT: true; the input reads as it did. -/
def keepCutsSpec : ChangeSpec := { name := "keepCuts", fn := fun _ => fun
  | [d1, d2, d3] => { results := [.lit (.bool true)], args := [d1, d2, d3] }
  | _ => none }
def keepCutsRow : OpenClaim := { program := "ytakickbnjbedfaadoor", sum := "e8521ef5b0078e0e12856243a4ba15521eb8466678f5ac8012175039290f3f67", func := "samphire/samphirelaw13.KeepCuts", spec := "keepCuts", inPlace := ["internal/bytealg.abigen_runtime_cmpstring", "slices.overlaps[samphire/api.Item]", "internal/bytealg.IndexByteString", "internal/bytealg.IndexString"], unfollowed := true, recurses := true, named := ["unicode/utf8.first", "unicode/utf8.acceptRanges", "internal/bytealg.MaxLen"], apart := false, laid := [("unicode/utf8.acceptRanges", laid_unicode_utf8_acceptRanges), ("unicode/utf8.first", laid_unicode_utf8_first)] }
def KeepCutsSaid : Prop := keepCutsRow.holds Tryd.pinned (OpenSpec.ofChange keepCutsSpec)

/-- ITS FALSE NEIGHBOUR: 'it returns false'. Refute it at one input. -/
def keepCutsWrong : ChangeSpec := { name := "keepCuts", fn := fun _ => fun
  | [d1, d2, d3] => { results := [.lit (.bool false)], args := [d1, d2, d3] }
  | _ => none }
def KeepCutsWrongFalsely : Prop := keepCutsRow.holds Tryd.pinned (OpenSpec.ofChange keepCutsWrong)

/-- 'samphirelaw10.RankOrder': WHATEVER THE INPUT: true; the input reads as it did. -/
def rankOrderSpec : ChangeSpec := { name := "rankOrder", fn := fun _ => fun
  | [d1, d2, d3] => { results := [.lit (.bool true)], args := [d1, d2, d3] }
  | _ => none }
def rankOrderRow : OpenClaim := { program := "ytakickbnjbedfaadoor", sum := "e8521ef5b0078e0e12856243a4ba15521eb8466678f5ac8012175039290f3f67", func := "samphire/samphirelaw10.RankOrder", spec := "rankOrder", inPlace := ["internal/bytealg.abigen_runtime_cmpstring", "internal/bytealg.IndexByteString", "internal/bytealg.IndexString"], unfollowed := true, recurses := true, named := ["unicode/utf8.first", "unicode/utf8.acceptRanges", "internal/bytealg.MaxLen"], apart := false, laid := [("unicode/utf8.acceptRanges", laid_unicode_utf8_acceptRanges), ("unicode/utf8.first", laid_unicode_utf8_first)] }
def RankOrderSaid : Prop := rankOrderRow.holds Tryd.pinned (OpenSpec.ofChange rankOrderSpec)

/-- ITS FALSE NEIGHBOUR: 'it returns false'. Refute it at one input. -/
def rankOrderWrong : ChangeSpec := { name := "rankOrder", fn := fun _ => fun
  | [d1, d2, d3] => { results := [.lit (.bool false)], args := [d1, d2, d3] }
  | _ => none }
def RankOrderWrongFalsely : Prop := rankOrderRow.holds Tryd.pinned (OpenSpec.ofChange rankOrderWrong)

/-- 'samphirelaw13.KeepStays': WHATEVER THE INPUT: true; the input reads as it did. -/
def keepStaysSpec : ChangeSpec := { name := "keepStays", fn := fun _ => fun
  | [d1, d2, d3] => { results := [.lit (.bool true)], args := [d1, d2, d3] }
  | _ => none }
def keepStaysRow : OpenClaim := { program := "ytakickbnjbedfaadoor", sum := "e8521ef5b0078e0e12856243a4ba15521eb8466678f5ac8012175039290f3f67", func := "samphire/samphirelaw13.KeepStays", spec := "keepStays", inPlace := ["internal/bytealg.abigen_runtime_cmpstring", "slices.overlaps[samphire/api.Item]", "internal/bytealg.IndexByteString", "internal/bytealg.IndexString"], unfollowed := true, recurses := true, named := ["unicode/utf8.first", "unicode/utf8.acceptRanges", "internal/bytealg.MaxLen"], apart := false, laid := [("unicode/utf8.acceptRanges", laid_unicode_utf8_acceptRanges), ("unicode/utf8.first", laid_unicode_utf8_first)] }
def KeepStaysSaid : Prop := keepStaysRow.holds Tryd.pinned (OpenSpec.ofChange keepStaysSpec)

/-- ITS FALSE NEIGHBOUR: 'it returns false'. Refute it at one input. -/
def keepStaysWrong : ChangeSpec := { name := "keepStays", fn := fun _ => fun
  | [d1, d2, d3] => { results := [.lit (.bool false)], args := [d1, d2, d3] }
  | _ => none }
def KeepStaysWrongFalsely : Prop := keepStaysRow.holds Tryd.pinned (OpenSpec.ofChange keepStaysWrong)

/-- 'samphirelaw13.KeepMerges': WHATEVER THE INPUT: true; the input reads as it did. -/
def keepMergesSpec : ChangeSpec := { name := "keepMerges", fn := fun _ => fun
  | [d1, d2, d3, d4] => { results := [.lit (.bool true)], args := [d1, d2, d3, d4] }
  | _ => none }
def keepMergesRow : OpenClaim := { program := "ytakickbnjbedfaadoor", sum := "e8521ef5b0078e0e12856243a4ba15521eb8466678f5ac8012175039290f3f67", func := "samphire/samphirelaw13.KeepMerges", spec := "keepMerges", inPlace := ["internal/bytealg.abigen_runtime_cmpstring", "slices.overlaps[samphire/api.Item]", "internal/bytealg.IndexByteString", "internal/bytealg.IndexString"], unfollowed := true, recurses := true, named := ["unicode/utf8.first", "unicode/utf8.acceptRanges", "internal/bytealg.MaxLen"], apart := false, laid := [("unicode/utf8.acceptRanges", laid_unicode_utf8_acceptRanges), ("unicode/utf8.first", laid_unicode_utf8_first)] }
def KeepMergesSaid : Prop := keepMergesRow.holds Tryd.pinned (OpenSpec.ofChange keepMergesSpec)

/-- ITS FALSE NEIGHBOUR: 'it returns false'. Refute it at one input. -/
def keepMergesWrong : ChangeSpec := { name := "keepMerges", fn := fun _ => fun
  | [d1, d2, d3, d4] => { results := [.lit (.bool false)], args := [d1, d2, d3, d4] }
  | _ => none }
def KeepMergesWrongFalsely : Prop := keepMergesRow.holds Tryd.pinned (OpenSpec.ofChange keepMergesWrong)

/-- 'samphirelaw02.NatWide': WHATEVER THE INPUT: true; the input reads as it did. -/
def natWideSpec : ChangeSpec := { name := "natWide", fn := fun _ => fun
  | [d1, d2] => { results := [.lit (.bool true)], args := [d1, d2] }
  | _ => none }
def natWideRow : OpenClaim := { program := "ytakickbnjbedfaadoor", sum := "e8521ef5b0078e0e12856243a4ba15521eb8466678f5ac8012175039290f3f67", func := "samphire/samphirelaw02.NatWide", spec := "natWide", inPlace := ["math/bits.Add64", "internal/bytealg.IndexByteString", "internal/bytealg.IndexString", "math/bits.Sub64"], named := ["unicode/utf8.first", "unicode/utf8.acceptRanges", "math/bits.divideError", "math/bits.overflowError", "internal/bytealg.MaxLen"], apart := false, laid := [("unicode/utf8.acceptRanges", laid_unicode_utf8_acceptRanges), ("unicode/utf8.first", laid_unicode_utf8_first)] }
def NatWideSaid : Prop := natWideRow.holds Tryd.pinned (OpenSpec.ofChange natWideSpec)

/-- ITS FALSE NEIGHBOUR: 'it returns false'. Refute it at one input. -/
def natWideWrong : ChangeSpec := { name := "natWide", fn := fun _ => fun
  | [d1, d2] => { results := [.lit (.bool false)], args := [d1, d2] }
  | _ => none }
def NatWideWrongFalsely : Prop := natWideRow.holds Tryd.pinned (OpenSpec.ofChange natWideWrong)

/-- 'samphirelaw04.ApproxExact': WHATEVER THE INPUT: true; the input reads as it did. -/
def approxExactSpec : ChangeSpec := { name := "approxExact", fn := fun _ => fun
  | [d] => { results := [.lit (.bool true)], args := [d] }
  | _ => none }
def approxExactRow : OpenClaim := { program := "ytakickbnjbedfaadoor", sum := "e8521ef5b0078e0e12856243a4ba15521eb8466678f5ac8012175039290f3f67", func := "samphire/samphirelaw04.ApproxExact", spec := "approxExact", inPlace := ["math.Float64bits", "math.Float64frombits", "internal/bytealg.IndexByteString", "internal/bytealg.IndexString"], unfollowed := true, recurses := true, named := ["unicode/utf8.first", "unicode/utf8.acceptRanges", "internal/bytealg.MaxLen"], apart := false, laid := [("unicode/utf8.acceptRanges", laid_unicode_utf8_acceptRanges), ("unicode/utf8.first", laid_unicode_utf8_first)] }
def ApproxExactSaid : Prop := approxExactRow.holds Tryd.pinned (OpenSpec.ofChange approxExactSpec)

/-- ITS FALSE NEIGHBOUR: 'it returns false'. Refute it at one input. -/
def approxExactWrong : ChangeSpec := { name := "approxExact", fn := fun _ => fun
  | [d] => { results := [.lit (.bool false)], args := [d] }
  | _ => none }
def ApproxExactWrongFalsely : Prop := approxExactRow.holds Tryd.pinned (OpenSpec.ofChange approxExactWrong)

/-- 'samphirelaw04.ApproxWhole': WHATEVER THE INPUT: true; the input reads as it did. -/
def approxWholeSpec : ChangeSpec := { name := "approxWhole", fn := fun _ => fun
  | [d] => { results := [.lit (.bool true)], args := [d] }
  | _ => none }
def approxWholeRow : OpenClaim := { program := "ytakickbnjbedfaadoor", sum := "e8521ef5b0078e0e12856243a4ba15521eb8466678f5ac8012175039290f3f67", func := "samphire/samphirelaw04.ApproxWhole", spec := "approxWhole", inPlace := ["math.Float64frombits", "math.Float64bits", "internal/bytealg.IndexByteString", "internal/bytealg.IndexString"], unfollowed := true, recurses := true, named := ["unicode/utf8.first", "unicode/utf8.acceptRanges", "internal/bytealg.MaxLen"], apart := false, laid := [("unicode/utf8.acceptRanges", laid_unicode_utf8_acceptRanges), ("unicode/utf8.first", laid_unicode_utf8_first)] }
def ApproxWholeSaid : Prop := approxWholeRow.holds Tryd.pinned (OpenSpec.ofChange approxWholeSpec)

/-- ITS FALSE NEIGHBOUR: 'it returns false'. Refute it at one input. -/
def approxWholeWrong : ChangeSpec := { name := "approxWhole", fn := fun _ => fun
  | [d] => { results := [.lit (.bool false)], args := [d] }
  | _ => none }
def ApproxWholeWrongFalsely : Prop := approxWholeRow.holds Tryd.pinned (OpenSpec.ofChange approxWholeWrong)

/- THE SECOND FORM. 'bulk': how many values and letters a reading holds, each counted each time it is reached (what is shared counts as often as it is met; a slice's spare places count too). A statement '..UptoSaid' is the law's where the arguments, and the package variables that the reading takes, are together of bulk at most 1048576: NARROWER than '..Said'. Prove '..Said' where nothing that the law and all that it calls make is longer than what came in: it says more and counts as full. Else prove '..UptoSaid'. A law counts once. -/
mutual
def uptoBulk {H : Type} : DataW H → Nat
  | .lit (.string bytes) => bytes.length + 1
  | .lit _ => 1
  | .nil => 1
  | .ptr d => uptoBulk d + 1
  | .slice elems spare => uptoBulkAll elems + uptoBulkAll spare + 1
  | .agg parts => uptoBulkAll parts + 1
  | .iface _ d => uptoBulk d + 1
  | .map entries => uptoBulkEntries entries + 1
  | .held _ => 1
def uptoBulkAll {H : Type} : List (DataW H) → Nat
  | [] => 0
  | d :: r => uptoBulk d + uptoBulkAll r
def uptoBulkEntries {H : Type} : List (Lit × DataW H) → Nat
  | [] => 0
  | x :: r => uptoBulkEntry x + uptoBulkEntries r
def uptoBulkEntry {H : Type} : Lit × DataW H → Nat
  | (.string bytes, d) => bytes.length + uptoBulk d + 1
  | (_, d) => uptoBulk d + 1
 end
def uptoSmall : (H : Type) → List (DataW H) → Bool := fun _ ds => decide (uptoBulkAll ds ≤ 1048576)
def OpenSpec.upto (s : _root_.Go.ChangeSpec) : _root_.Go.OpenSpec := { _root_.Go.OpenSpec.ofChange s with cond := some uptoSmall }

/-- 'samphirelaw03.RatTells', WHERE WHAT IT READS IS OF BULK AT MOST 1048576: true; the input reads as it did. -/
def ratTellsUptoRow : OpenClaim := { program := "ytakickbnjbedfaadoor", sum := "e8521ef5b0078e0e12856243a4ba15521eb8466678f5ac8012175039290f3f67", func := "samphire/samphirelaw03.RatTells", spec := "ratTells", inPlace := ["internal/bytealg.IndexByteString", "internal/bytealg.IndexString"], unfollowed := true, recurses := true, named := ["unicode/utf8.first", "unicode/utf8.acceptRanges", "internal/bytealg.MaxLen"], apart := false, laid := [("unicode/utf8.acceptRanges", laid_unicode_utf8_acceptRanges), ("unicode/utf8.first", laid_unicode_utf8_first)], narrowed := true }
def RatTellsUptoSaid : Prop := ratTellsUptoRow.holds Tryd.pinned (OpenSpec.upto ratTellsSpec)

/-- 'samphirelaw10.RankTells', WHERE WHAT IT READS IS OF BULK AT MOST 1048576: true; the input reads as it did. -/
def rankTellsUptoRow : OpenClaim := { program := "ytakickbnjbedfaadoor", sum := "e8521ef5b0078e0e12856243a4ba15521eb8466678f5ac8012175039290f3f67", func := "samphire/samphirelaw10.RankTells", spec := "rankTells", inPlace := ["internal/bytealg.abigen_runtime_cmpstring", "internal/bytealg.IndexByteString", "internal/bytealg.IndexString"], unfollowed := true, recurses := true, named := ["unicode/utf8.first", "unicode/utf8.acceptRanges", "internal/bytealg.MaxLen"], apart := false, laid := [("unicode/utf8.acceptRanges", laid_unicode_utf8_acceptRanges), ("unicode/utf8.first", laid_unicode_utf8_first)], narrowed := true }
def RankTellsUptoSaid : Prop := rankTellsUptoRow.holds Tryd.pinned (OpenSpec.upto rankTellsSpec)

/-- 'samphirelaw10.RankSorts', WHERE WHAT IT READS IS OF BULK AT MOST 1048576: true; the input reads as it did. -/
def rankSortsUptoRow : OpenClaim := { program := "ytakickbnjbedfaadoor", sum := "e8521ef5b0078e0e12856243a4ba15521eb8466678f5ac8012175039290f3f67", func := "samphire/samphirelaw10.RankSorts", spec := "rankSorts", inPlace := ["internal/bytealg.abigen_runtime_cmpstring", "internal/bytealg.IndexByteString", "internal/bytealg.IndexString"], unfollowed := true, recurses := true, named := ["unicode/utf8.first", "unicode/utf8.acceptRanges", "internal/bytealg.MaxLen"], apart := false, laid := [("unicode/utf8.acceptRanges", laid_unicode_utf8_acceptRanges), ("unicode/utf8.first", laid_unicode_utf8_first)], narrowed := true }
def RankSortsUptoSaid : Prop := rankSortsUptoRow.holds Tryd.pinned (OpenSpec.upto rankSortsSpec)

/-- 'samphirelaw10.RankScale', WHERE WHAT IT READS IS OF BULK AT MOST 1048576: true; the input reads as it did. -/
def rankScaleUptoRow : OpenClaim := { program := "ytakickbnjbedfaadoor", sum := "e8521ef5b0078e0e12856243a4ba15521eb8466678f5ac8012175039290f3f67", func := "samphire/samphirelaw10.RankScale", spec := "rankScale", inPlace := ["internal/bytealg.abigen_runtime_cmpstring", "internal/bytealg.IndexByteString", "internal/bytealg.IndexString"], unfollowed := true, recurses := true, named := ["unicode/utf8.first", "unicode/utf8.acceptRanges", "internal/bytealg.MaxLen"], apart := false, laid := [("unicode/utf8.acceptRanges", laid_unicode_utf8_acceptRanges), ("unicode/utf8.first", laid_unicode_utf8_first)], narrowed := true }
def RankScaleUptoSaid : Prop := rankScaleUptoRow.holds Tryd.pinned (OpenSpec.upto rankScaleSpec)

/-- 'samphirelaw10.RankFirst', WHERE WHAT IT READS IS OF BULK AT MOST 1048576: true; the input reads as it did. -/
def rankFirstUptoRow : OpenClaim := { program := "ytakickbnjbedfaadoor", sum := "e8521ef5b0078e0e12856243a4ba15521eb8466678f5ac8012175039290f3f67", func := "samphire/samphirelaw10.RankFirst", spec := "rankFirst", inPlace := ["internal/bytealg.abigen_runtime_cmpstring", "internal/bytealg.IndexByteString", "internal/bytealg.IndexString"], unfollowed := true, recurses := true, named := ["unicode/utf8.first", "unicode/utf8.acceptRanges", "internal/bytealg.MaxLen"], apart := false, laid := [("unicode/utf8.acceptRanges", laid_unicode_utf8_acceptRanges), ("unicode/utf8.first", laid_unicode_utf8_first)], narrowed := true }
def RankFirstUptoSaid : Prop := rankFirstUptoRow.holds Tryd.pinned (OpenSpec.upto rankFirstSpec)

/-- 'samphirelaw13.KeepFirst', WHERE WHAT IT READS IS OF BULK AT MOST 1048576: true; the input reads as it did. -/
def keepFirstUptoRow : OpenClaim := { program := "ytakickbnjbedfaadoor", sum := "e8521ef5b0078e0e12856243a4ba15521eb8466678f5ac8012175039290f3f67", func := "samphire/samphirelaw13.KeepFirst", spec := "keepFirst", inPlace := ["internal/bytealg.abigen_runtime_cmpstring", "slices.overlaps[samphire/api.Item]", "internal/bytealg.IndexByteString", "internal/bytealg.IndexString"], unfollowed := true, recurses := true, named := ["unicode/utf8.first", "unicode/utf8.acceptRanges", "internal/bytealg.MaxLen"], apart := false, laid := [("unicode/utf8.acceptRanges", laid_unicode_utf8_acceptRanges), ("unicode/utf8.first", laid_unicode_utf8_first)], narrowed := true }
def KeepFirstUptoSaid : Prop := keepFirstUptoRow.holds Tryd.pinned (OpenSpec.upto keepFirstSpec)

/-- 'samphirelaw13.KeepCuts', WHERE WHAT IT READS IS OF BULK AT MOST 1048576: true; the input reads as it did. -/
def keepCutsUptoRow : OpenClaim := { program := "ytakickbnjbedfaadoor", sum := "e8521ef5b0078e0e12856243a4ba15521eb8466678f5ac8012175039290f3f67", func := "samphire/samphirelaw13.KeepCuts", spec := "keepCuts", inPlace := ["internal/bytealg.abigen_runtime_cmpstring", "slices.overlaps[samphire/api.Item]", "internal/bytealg.IndexByteString", "internal/bytealg.IndexString"], unfollowed := true, recurses := true, named := ["unicode/utf8.first", "unicode/utf8.acceptRanges", "internal/bytealg.MaxLen"], apart := false, laid := [("unicode/utf8.acceptRanges", laid_unicode_utf8_acceptRanges), ("unicode/utf8.first", laid_unicode_utf8_first)], narrowed := true }
def KeepCutsUptoSaid : Prop := keepCutsUptoRow.holds Tryd.pinned (OpenSpec.upto keepCutsSpec)

/-- 'samphirelaw10.RankOrder', WHERE WHAT IT READS IS OF BULK AT MOST 1048576: true; the input reads as it did. -/
def rankOrderUptoRow : OpenClaim := { program := "ytakickbnjbedfaadoor", sum := "e8521ef5b0078e0e12856243a4ba15521eb8466678f5ac8012175039290f3f67", func := "samphire/samphirelaw10.RankOrder", spec := "rankOrder", inPlace := ["internal/bytealg.abigen_runtime_cmpstring", "internal/bytealg.IndexByteString", "internal/bytealg.IndexString"], unfollowed := true, recurses := true, named := ["unicode/utf8.first", "unicode/utf8.acceptRanges", "internal/bytealg.MaxLen"], apart := false, laid := [("unicode/utf8.acceptRanges", laid_unicode_utf8_acceptRanges), ("unicode/utf8.first", laid_unicode_utf8_first)], narrowed := true }
def RankOrderUptoSaid : Prop := rankOrderUptoRow.holds Tryd.pinned (OpenSpec.upto rankOrderSpec)

/-- 'samphirelaw13.KeepStays', WHERE WHAT IT READS IS OF BULK AT MOST 1048576: true; the input reads as it did. -/
def keepStaysUptoRow : OpenClaim := { program := "ytakickbnjbedfaadoor", sum := "e8521ef5b0078e0e12856243a4ba15521eb8466678f5ac8012175039290f3f67", func := "samphire/samphirelaw13.KeepStays", spec := "keepStays", inPlace := ["internal/bytealg.abigen_runtime_cmpstring", "slices.overlaps[samphire/api.Item]", "internal/bytealg.IndexByteString", "internal/bytealg.IndexString"], unfollowed := true, recurses := true, named := ["unicode/utf8.first", "unicode/utf8.acceptRanges", "internal/bytealg.MaxLen"], apart := false, laid := [("unicode/utf8.acceptRanges", laid_unicode_utf8_acceptRanges), ("unicode/utf8.first", laid_unicode_utf8_first)], narrowed := true }
def KeepStaysUptoSaid : Prop := keepStaysUptoRow.holds Tryd.pinned (OpenSpec.upto keepStaysSpec)

/-- 'samphirelaw13.KeepMerges', WHERE WHAT IT READS IS OF BULK AT MOST 1048576: true; the input reads as it did. -/
def keepMergesUptoRow : OpenClaim := { program := "ytakickbnjbedfaadoor", sum := "e8521ef5b0078e0e12856243a4ba15521eb8466678f5ac8012175039290f3f67", func := "samphire/samphirelaw13.KeepMerges", spec := "keepMerges", inPlace := ["internal/bytealg.abigen_runtime_cmpstring", "slices.overlaps[samphire/api.Item]", "internal/bytealg.IndexByteString", "internal/bytealg.IndexString"], unfollowed := true, recurses := true, named := ["unicode/utf8.first", "unicode/utf8.acceptRanges", "internal/bytealg.MaxLen"], apart := false, laid := [("unicode/utf8.acceptRanges", laid_unicode_utf8_acceptRanges), ("unicode/utf8.first", laid_unicode_utf8_first)], narrowed := true }
def KeepMergesUptoSaid : Prop := keepMergesUptoRow.holds Tryd.pinned (OpenSpec.upto keepMergesSpec)

/-- 'samphirelaw02.NatWide', WHERE WHAT IT READS IS OF BULK AT MOST 1048576: true; the input reads as it did. -/
def natWideUptoRow : OpenClaim := { program := "ytakickbnjbedfaadoor", sum := "e8521ef5b0078e0e12856243a4ba15521eb8466678f5ac8012175039290f3f67", func := "samphire/samphirelaw02.NatWide", spec := "natWide", inPlace := ["math/bits.Add64", "internal/bytealg.IndexByteString", "internal/bytealg.IndexString", "math/bits.Sub64"], named := ["unicode/utf8.first", "unicode/utf8.acceptRanges", "math/bits.divideError", "math/bits.overflowError", "internal/bytealg.MaxLen"], apart := false, laid := [("unicode/utf8.acceptRanges", laid_unicode_utf8_acceptRanges), ("unicode/utf8.first", laid_unicode_utf8_first)], narrowed := true }
def NatWideUptoSaid : Prop := natWideUptoRow.holds Tryd.pinned (OpenSpec.upto natWideSpec)

/-- 'samphirelaw04.ApproxExact', WHERE WHAT IT READS IS OF BULK AT MOST 1048576: true; the input reads as it did. -/
def approxExactUptoRow : OpenClaim := { program := "ytakickbnjbedfaadoor", sum := "e8521ef5b0078e0e12856243a4ba15521eb8466678f5ac8012175039290f3f67", func := "samphire/samphirelaw04.ApproxExact", spec := "approxExact", inPlace := ["math.Float64bits", "math.Float64frombits", "internal/bytealg.IndexByteString", "internal/bytealg.IndexString"], unfollowed := true, recurses := true, named := ["unicode/utf8.first", "unicode/utf8.acceptRanges", "internal/bytealg.MaxLen"], apart := false, laid := [("unicode/utf8.acceptRanges", laid_unicode_utf8_acceptRanges), ("unicode/utf8.first", laid_unicode_utf8_first)], narrowed := true }
def ApproxExactUptoSaid : Prop := approxExactUptoRow.holds Tryd.pinned (OpenSpec.upto approxExactSpec)

/-- 'samphirelaw04.ApproxWhole', WHERE WHAT IT READS IS OF BULK AT MOST 1048576: true; the input reads as it did. -/
def approxWholeUptoRow : OpenClaim := { program := "ytakickbnjbedfaadoor", sum := "e8521ef5b0078e0e12856243a4ba15521eb8466678f5ac8012175039290f3f67", func := "samphire/samphirelaw04.ApproxWhole", spec := "approxWhole", inPlace := ["math.Float64frombits", "math.Float64bits", "internal/bytealg.IndexByteString", "internal/bytealg.IndexString"], unfollowed := true, recurses := true, named := ["unicode/utf8.first", "unicode/utf8.acceptRanges", "internal/bytealg.MaxLen"], apart := false, laid := [("unicode/utf8.acceptRanges", laid_unicode_utf8_acceptRanges), ("unicode/utf8.first", laid_unicode_utf8_first)], narrowed := true }
def ApproxWholeUptoSaid : Prop := approxWholeUptoRow.holds Tryd.pinned (OpenSpec.upto approxWholeSpec)

end Rows
end Go.Proofs.YtakickbnjbedfaaDoor
