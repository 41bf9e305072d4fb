/-
  NARROWER THAN 'FOR EVERY INPUT', by the rows' own cells (each row's printed sentence says how): ChainLinks: laid · ChainVerifies: laid · ChainPrefix: laid · ChainCodes: laid.
  DERIVED. THE GIVEN ROWS OF THIS SEAT. 4 by the template 'for every input the law returns true; each argument reads behind the call as it read before'; 0 by the template 'total and deterministic' (their statements: YtfkboondffejaaaGreatDoorTotals.lean).
  GIVEN WITH THE SEED: the statements are not yours to turn. If you find one false, say at which input.
  Laid BY PROGRAM, IN A SANDBOX (cutbox-rows.mjs): the forced cells as the released guide's own fill.sh prints them over the translation 8ed1c114ea688a9e… (all of the seat's roots in one cut). By AI agents, Wed Nov 11 2026. No macro, syntax, notation, axiom, sorry.
-/
import Derived.Test.YtfkboondffejaaaGreatDoorChecked
import GoSem.PinnedTables
import GoSem.Claim
import GoSem.ClaimJoined
import GoSem.ClaimMapViews
import Derived.JoinedTies
import Derived.KernelRfl
namespace Go.Proofs.YtfkboondffejaaaGreatDoor
/- THE CELL 'sum', in the pinned program and in every row, IS THE sha256 OF THE DUMP (.gsa) THAT YtfkboondffejaaaGreatDoorProg.lean LOADS. Nothing in Lean hashes anything: it is a label: what it is worth is what the hold of that sum in a sandbox is worth. -/
noncomputable def Tryz.pinned : Pinned := { name := "ytfkboondffejaaagreatdoor", sum := "8ed1c114ea688a9e0932bf8003d5d55d184ace341e11a096275c886a5196e555", checked := Tryz.checked }
namespace Rows
def none {H : Type} : Left H := { results := [], args := [] }

/- WHAT THE LISTED PACKAGE-LEVEL VARIABLES READ AS WHEN THE CALL BEGINS. Each datum BY PROGRAM (the guide's laid-datum.mjs) off the statement by which the dump's own 'gosem.cut.vars' lays the variable. In a bare row this is a premise. The card (YtfkboondffejaaaGreatDoorCards.lean) ties it to the program's text. -/
def laid_muniment_digest_first {H : Type} : DataW H := .agg [.lit (.int .u32 1779033703), .lit (.int .u32 3144134277), .lit (.int .u32 1013904242), .lit (.int .u32 2773480762), .lit (.int .u32 1359893119), .lit (.int .u32 2600822924), .lit (.int .u32 528734635), .lit (.int .u32 1541459225)]
def laid_muniment_digest_parts {H : Type} : DataW H := .agg [.lit (.int .u32 1116352408), .lit (.int .u32 1899447441), .lit (.int .u32 3049323471), .lit (.int .u32 3921009573), .lit (.int .u32 961987163), .lit (.int .u32 1508970993), .lit (.int .u32 2453635748), .lit (.int .u32 2870763221), .lit (.int .u32 3624381080), .lit (.int .u32 310598401), .lit (.int .u32 607225278), .lit (.int .u32 1426881987), .lit (.int .u32 1925078388), .lit (.int .u32 2162078206), .lit (.int .u32 2614888103), .lit (.int .u32 3248222580), .lit (.int .u32 3835390401), .lit (.int .u32 4022224774), .lit (.int .u32 264347078), .lit (.int .u32 604807628), .lit (.int .u32 770255983), .lit (.int .u32 1249150122), .lit (.int .u32 1555081692), .lit (.int .u32 1996064986), .lit (.int .u32 2554220882), .lit (.int .u32 2821834349), .lit (.int .u32 2952996808), .lit (.int .u32 3210313671), .lit (.int .u32 3336571891), .lit (.int .u32 3584528711), .lit (.int .u32 113926993), .lit (.int .u32 338241895), .lit (.int .u32 666307205), .lit (.int .u32 773529912), .lit (.int .u32 1294757372), .lit (.int .u32 1396182291), .lit (.int .u32 1695183700), .lit (.int .u32 1986661051), .lit (.int .u32 2177026350), .lit (.int .u32 2456956037), .lit (.int .u32 2730485921), .lit (.int .u32 2820302411), .lit (.int .u32 3259730800), .lit (.int .u32 3345764771), .lit (.int .u32 3516065817), .lit (.int .u32 3600352804), .lit (.int .u32 4094571909), .lit (.int .u32 275423344), .lit (.int .u32 430227734), .lit (.int .u32 506948616), .lit (.int .u32 659060556), .lit (.int .u32 883997877), .lit (.int .u32 958139571), .lit (.int .u32 1322822218), .lit (.int .u32 1537002063), .lit (.int .u32 1747873779), .lit (.int .u32 1955562222), .lit (.int .u32 2024104815), .lit (.int .u32 2227730452), .lit (.int .u32 2361852424), .lit (.int .u32 2428436474), .lit (.int .u32 2756734187), .lit (.int .u32 3204031479), .lit (.int .u32 3329325298)]
def laid_unicode_utf8_acceptRanges {H : Type} : DataW H := .agg [.agg [.lit (.int .u8 128), .lit (.int .u8 191)], .agg [.lit (.int .u8 160), .lit (.int .u8 191)], .agg [.lit (.int .u8 128), .lit (.int .u8 159)], .agg [.lit (.int .u8 144), .lit (.int .u8 191)], .agg [.lit (.int .u8 128), .lit (.int .u8 143)], .agg [.lit (.int .u8 0), .lit (.int .u8 0)], .agg [.lit (.int .u8 0), .lit (.int .u8 0)], .agg [.lit (.int .u8 0), .lit (.int .u8 0)], .agg [.lit (.int .u8 0), .lit (.int .u8 0)], .agg [.lit (.int .u8 0), .lit (.int .u8 0)], .agg [.lit (.int .u8 0), .lit (.int .u8 0)], .agg [.lit (.int .u8 0), .lit (.int .u8 0)], .agg [.lit (.int .u8 0), .lit (.int .u8 0)], .agg [.lit (.int .u8 0), .lit (.int .u8 0)], .agg [.lit (.int .u8 0), .lit (.int .u8 0)], .agg [.lit (.int .u8 0), .lit (.int .u8 0)]]
/-- One of Go's own tables, pinned by name: the form's constant. -/
def laid_unicode_utf8_first : DataW Unit := Go.Pinned.utf8First

/-- 'munimentlaw17.ChainLinks': WHATEVER THE INPUT: true; the input reads as it did. -/
def chainLinksSpec : ChangeSpec := { name := "chainLinks", fn := fun _ => fun
  | [d1, d2] => { results := [.lit (.bool true)], args := [d1, d2] }
  | _ => none }
def chainLinksRow : OpenClaim := { program := "ytfkboondffejaaagreatdoor", sum := "8ed1c114ea688a9e0932bf8003d5d55d184ace341e11a096275c886a5196e555", func := "muniment/munimentlaw17.ChainLinks", spec := "chainLinks", inPlace := ["internal/bytealg.Compare"], unfollowed := true, recurses := true, named := ["unicode/utf8.first", "unicode/utf8.acceptRanges", "muniment/digest.first", "muniment/digest.parts"], apart := false, laid := [("muniment/digest.first", laid_muniment_digest_first), ("muniment/digest.parts", laid_muniment_digest_parts), ("unicode/utf8.acceptRanges", laid_unicode_utf8_acceptRanges), ("unicode/utf8.first", laid_unicode_utf8_first)] }
def ChainLinksSaid : Prop := chainLinksRow.holds Tryz.pinned (OpenSpec.ofChange chainLinksSpec)

/-- ITS FALSE NEIGHBOUR: 'it returns false'. Refute it at one input. -/
def chainLinksWrong : ChangeSpec := { name := "chainLinks", fn := fun _ => fun
  | [d1, d2] => { results := [.lit (.bool false)], args := [d1, d2] }
  | _ => none }
def ChainLinksWrongFalsely : Prop := chainLinksRow.holds Tryz.pinned (OpenSpec.ofChange chainLinksWrong)

/-- 'munimentlaw17.ChainVerifies': WHATEVER THE INPUT: true; the input reads as it did. -/
def chainVerifiesSpec : ChangeSpec := { name := "chainVerifies", fn := fun _ => fun
  | [d1, d2] => { results := [.lit (.bool true)], args := [d1, d2] }
  | _ => none }
def chainVerifiesRow : OpenClaim := { program := "ytfkboondffejaaagreatdoor", sum := "8ed1c114ea688a9e0932bf8003d5d55d184ace341e11a096275c886a5196e555", func := "muniment/munimentlaw17.ChainVerifies", spec := "chainVerifies", inPlace := ["internal/bytealg.Compare"], unfollowed := true, recurses := true, named := ["unicode/utf8.first", "unicode/utf8.acceptRanges", "muniment/digest.first", "muniment/digest.parts"], apart := false, laid := [("muniment/digest.first", laid_muniment_digest_first), ("muniment/digest.parts", laid_muniment_digest_parts), ("unicode/utf8.acceptRanges", laid_unicode_utf8_acceptRanges), ("unicode/utf8.first", laid_unicode_utf8_first)] }
def ChainVerifiesSaid : Prop := chainVerifiesRow.holds Tryz.pinned (OpenSpec.ofChange chainVerifiesSpec)

/-- ITS FALSE NEIGHBOUR: 'it returns false'. Refute it at one input. -/
def chainVerifiesWrong : ChangeSpec := { name := "chainVerifies", fn := fun _ => fun
  | [d1, d2] => { results := [.lit (.bool false)], args := [d1, d2] }
  | _ => none }
def ChainVerifiesWrongFalsely : Prop := chainVerifiesRow.holds Tryz.pinned (OpenSpec.ofChange chainVerifiesWrong)

/-- 'munimentlaw17.ChainPrefix': WHATEVER THE INPUT: true; the input reads as it did. -/
def chainPrefixSpec : ChangeSpec := { name := "chainPrefix", fn := fun _ => fun
  | [d1, d2, d3] => { results := [.lit (.bool true)], args := [d1, d2, d3] }
  | _ => none }
def chainPrefixRow : OpenClaim := { program := "ytfkboondffejaaagreatdoor", sum := "8ed1c114ea688a9e0932bf8003d5d55d184ace341e11a096275c886a5196e555", func := "muniment/munimentlaw17.ChainPrefix", spec := "chainPrefix", inPlace := ["internal/bytealg.Compare"], unfollowed := true, recurses := true, named := ["unicode/utf8.first", "unicode/utf8.acceptRanges", "muniment/digest.first", "muniment/digest.parts"], apart := false, laid := [("muniment/digest.first", laid_muniment_digest_first), ("muniment/digest.parts", laid_muniment_digest_parts), ("unicode/utf8.acceptRanges", laid_unicode_utf8_acceptRanges), ("unicode/utf8.first", laid_unicode_utf8_first)] }
def ChainPrefixSaid : Prop := chainPrefixRow.holds Tryz.pinned (OpenSpec.ofChange chainPrefixSpec)

/-- ITS FALSE NEIGHBOUR: 'it returns false'. Refute it at one input. -/
def chainPrefixWrong : ChangeSpec := { name := "chainPrefix", fn := fun _ => fun
  | [d1, d2, d3] => { results := [.lit (.bool false)], args := [d1, d2, d3] }
  | _ => none }
def ChainPrefixWrongFalsely : Prop := chainPrefixRow.holds Tryz.pinned (OpenSpec.ofChange chainPrefixWrong)

/-- 'munimentlaw17.ChainCodes': WHATEVER THE INPUT: true; the input reads as it did. -/
def chainCodesSpec : ChangeSpec := { name := "chainCodes", fn := fun _ => fun
  | [d1, d2] => { results := [.lit (.bool true)], args := [d1, d2] }
  | _ => none }
def chainCodesRow : OpenClaim := { program := "ytfkboondffejaaagreatdoor", sum := "8ed1c114ea688a9e0932bf8003d5d55d184ace341e11a096275c886a5196e555", func := "muniment/munimentlaw17.ChainCodes", spec := "chainCodes", inPlace := ["internal/bytealg.Compare"], unfollowed := true, recurses := true, named := ["unicode/utf8.first", "unicode/utf8.acceptRanges", "muniment/digest.first", "muniment/digest.parts"], apart := false, laid := [("muniment/digest.first", laid_muniment_digest_first), ("muniment/digest.parts", laid_muniment_digest_parts), ("unicode/utf8.acceptRanges", laid_unicode_utf8_acceptRanges), ("unicode/utf8.first", laid_unicode_utf8_first)] }
def ChainCodesSaid : Prop := chainCodesRow.holds Tryz.pinned (OpenSpec.ofChange chainCodesSpec)

/-- ITS FALSE NEIGHBOUR: 'it returns false'. Refute it at one input. -/
def chainCodesWrong : ChangeSpec := { name := "chainCodes", fn := fun _ => fun
  | [d1, d2] => { results := [.lit (.bool false)], args := [d1, d2] }
  | _ => none }
def ChainCodesWrongFalsely : Prop := chainCodesRow.holds Tryz.pinned (OpenSpec.ofChange chainCodesWrong)

/- THE SECOND FORM. 'bulk': how many values and letters a reading holds, each counted each time it is reached (what is shared counts as often as it is met; a slice's spare places count too). A statement '..UptoSaid' is the law's where the arguments, and the package variables that the reading takes, are together of bulk at most 1048576: NARROWER than '..Said'. Prove '..Said' where nothing that the law and all that it calls make is longer than what came in: it says more and counts as full. Else prove '..UptoSaid'. A law counts once. -/
mutual
def uptoBulk {H : Type} : DataW H → Nat
  | .lit (.string bytes) => bytes.length + 1
  | .lit _ => 1
  | .nil => 1
  | .ptr d => uptoBulk d + 1
  | .slice elems spare => uptoBulkAll elems + uptoBulkAll spare + 1
  | .agg parts => uptoBulkAll parts + 1
  | .iface _ d => uptoBulk d + 1
  | .map entries => uptoBulkEntries entries + 1
  | .held _ => 1
def uptoBulkAll {H : Type} : List (DataW H) → Nat
  | [] => 0
  | d :: r => uptoBulk d + uptoBulkAll r
def uptoBulkEntries {H : Type} : List (Lit × DataW H) → Nat
  | [] => 0
  | x :: r => uptoBulkEntry x + uptoBulkEntries r
def uptoBulkEntry {H : Type} : Lit × DataW H → Nat
  | (.string bytes, d) => bytes.length + uptoBulk d + 1
  | (_, d) => uptoBulk d + 1
 end
def uptoSmall : (H : Type) → List (DataW H) → Bool := fun _ ds => decide (uptoBulkAll ds ≤ 1048576)
def OpenSpec.upto (s : _root_.Go.ChangeSpec) : _root_.Go.OpenSpec := { _root_.Go.OpenSpec.ofChange s with cond := some uptoSmall }

/-- 'munimentlaw17.ChainLinks', WHERE WHAT IT READS IS OF BULK AT MOST 1048576: true; the input reads as it did. -/
def chainLinksUptoRow : OpenClaim := { program := "ytfkboondffejaaagreatdoor", sum := "8ed1c114ea688a9e0932bf8003d5d55d184ace341e11a096275c886a5196e555", func := "muniment/munimentlaw17.ChainLinks", spec := "chainLinks", inPlace := ["internal/bytealg.Compare"], unfollowed := true, recurses := true, named := ["unicode/utf8.first", "unicode/utf8.acceptRanges", "muniment/digest.first", "muniment/digest.parts"], apart := false, laid := [("muniment/digest.first", laid_muniment_digest_first), ("muniment/digest.parts", laid_muniment_digest_parts), ("unicode/utf8.acceptRanges", laid_unicode_utf8_acceptRanges), ("unicode/utf8.first", laid_unicode_utf8_first)], narrowed := true }
def ChainLinksUptoSaid : Prop := chainLinksUptoRow.holds Tryz.pinned (OpenSpec.upto chainLinksSpec)

/-- 'munimentlaw17.ChainVerifies', WHERE WHAT IT READS IS OF BULK AT MOST 1048576: true; the input reads as it did. -/
def chainVerifiesUptoRow : OpenClaim := { program := "ytfkboondffejaaagreatdoor", sum := "8ed1c114ea688a9e0932bf8003d5d55d184ace341e11a096275c886a5196e555", func := "muniment/munimentlaw17.ChainVerifies", spec := "chainVerifies", inPlace := ["internal/bytealg.Compare"], unfollowed := true, recurses := true, named := ["unicode/utf8.first", "unicode/utf8.acceptRanges", "muniment/digest.first", "muniment/digest.parts"], apart := false, laid := [("muniment/digest.first", laid_muniment_digest_first), ("muniment/digest.parts", laid_muniment_digest_parts), ("unicode/utf8.acceptRanges", laid_unicode_utf8_acceptRanges), ("unicode/utf8.first", laid_unicode_utf8_first)], narrowed := true }
def ChainVerifiesUptoSaid : Prop := chainVerifiesUptoRow.holds Tryz.pinned (OpenSpec.upto chainVerifiesSpec)

/-- 'munimentlaw17.ChainPrefix', WHERE WHAT IT READS IS OF BULK AT MOST 1048576: true; the input reads as it did. -/
def chainPrefixUptoRow : OpenClaim := { program := "ytfkboondffejaaagreatdoor", sum := "8ed1c114ea688a9e0932bf8003d5d55d184ace341e11a096275c886a5196e555", func := "muniment/munimentlaw17.ChainPrefix", spec := "chainPrefix", inPlace := ["internal/bytealg.Compare"], unfollowed := true, recurses := true, named := ["unicode/utf8.first", "unicode/utf8.acceptRanges", "muniment/digest.first", "muniment/digest.parts"], apart := false, laid := [("muniment/digest.first", laid_muniment_digest_first), ("muniment/digest.parts", laid_muniment_digest_parts), ("unicode/utf8.acceptRanges", laid_unicode_utf8_acceptRanges), ("unicode/utf8.first", laid_unicode_utf8_first)], narrowed := true }
def ChainPrefixUptoSaid : Prop := chainPrefixUptoRow.holds Tryz.pinned (OpenSpec.upto chainPrefixSpec)

/-- 'munimentlaw17.ChainCodes', WHERE WHAT IT READS IS OF BULK AT MOST 1048576: true; the input reads as it did. -/
def chainCodesUptoRow : OpenClaim := { program := "ytfkboondffejaaagreatdoor", sum := "8ed1c114ea688a9e0932bf8003d5d55d184ace341e11a096275c886a5196e555", func := "muniment/munimentlaw17.ChainCodes", spec := "chainCodes", inPlace := ["internal/bytealg.Compare"], unfollowed := true, recurses := true, named := ["unicode/utf8.first", "unicode/utf8.acceptRanges", "muniment/digest.first", "muniment/digest.parts"], apart := false, laid := [("muniment/digest.first", laid_muniment_digest_first), ("muniment/digest.parts", laid_muniment_digest_parts), ("unicode/utf8.acceptRanges", laid_unicode_utf8_acceptRanges), ("unicode/utf8.first", laid_unicode_utf8_first)], narrowed := true }
def ChainCodesUptoSaid : Prop := chainCodesUptoRow.holds Tryz.pinned (OpenSpec.upto chainCodesSpec)

end Rows
end Go.Proofs.YtfkboondffejaaaGreatDoor
