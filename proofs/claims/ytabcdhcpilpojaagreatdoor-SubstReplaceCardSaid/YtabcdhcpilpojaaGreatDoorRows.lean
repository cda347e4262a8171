/-
  NARROWER THAN 'FOR EVERY INPUT', by the rows' own cells (each row's printed sentence says how): SubstApply: laid · SubstValue: laid · SubstFresh: laid · SubstApplyRaw: laid · SubstReplace: laid · SubstReplaceValue: laid · SubstRename: laid · SubstRenameBack: laid · SubstDefinitions: laid · SubstCompose: laid.
  DERIVED. THE GIVEN ROWS OF THIS SEAT. 10 by the template 'for every input the law returns true; each argument reads behind the call as it read before'; 0 by the template 'total and deterministic' (their statements: YtabcdhcpilpojaaGreatDoorTotals.lean).
  GIVEN WITH THE SEED: the statements are not yours to turn. If you find one false, say at which input.
  Laid BY PROGRAM, IN A SANDBOX (cutbox-rows.mjs): the forced cells as the released guide's own fill.sh prints them over the translation cdbdda34a2e3e206… (all of the seat's roots in one cut). By AI agents, Wed Nov 11 2026. No macro, syntax, notation, axiom, sorry.
-/
import Derived.Test.YtabcdhcpilpojaaGreatDoorChecked
import GoSem.Claim
import GoSem.ClaimJoined
import GoSem.ClaimMapViews
import Derived.JoinedTies
import Derived.KernelRfl
namespace Go.Proofs.YtabcdhcpilpojaaGreatDoor
/- THE CELL 'sum', in the pinned program and in every row, IS THE sha256 OF THE DUMP (.gsa) THAT YtabcdhcpilpojaaGreatDoorProg.lean LOADS. Nothing in Lean hashes anything: it is a label: what it is worth is what the hold of that sum in a sandbox is worth. -/
noncomputable def Tryz.pinned : Pinned := { name := "ytabcdhcpilpojaagreatdoor", sum := "cdbdda34a2e3e206dd88249651cb32ec72f4fff6cedd00a2effd47bce1feccef", checked := Tryz.checked }
namespace Rows
def none {H : Type} : Left H := { results := [], args := [] }

/- WHAT THE LISTED PACKAGE-LEVEL VARIABLES READ AS WHEN THE CALL BEGINS. Each datum BY PROGRAM (the guide's laid-datum.mjs) off the statement by which the dump's own 'gosem.cut.vars' lays the variable. In a bare row this is a premise. The card (YtabcdhcpilpojaaGreatDoorCards.lean) ties it to the program's text. -/
def laid_math_bits_deBruijn32tab {H : Type} : DataW H := .agg [.lit (.int .u8 0), .lit (.int .u8 1), .lit (.int .u8 28), .lit (.int .u8 2), .lit (.int .u8 29), .lit (.int .u8 14), .lit (.int .u8 24), .lit (.int .u8 3), .lit (.int .u8 30), .lit (.int .u8 22), .lit (.int .u8 20), .lit (.int .u8 15), .lit (.int .u8 25), .lit (.int .u8 17), .lit (.int .u8 4), .lit (.int .u8 8), .lit (.int .u8 31), .lit (.int .u8 27), .lit (.int .u8 13), .lit (.int .u8 23), .lit (.int .u8 21), .lit (.int .u8 19), .lit (.int .u8 16), .lit (.int .u8 7), .lit (.int .u8 26), .lit (.int .u8 12), .lit (.int .u8 18), .lit (.int .u8 6), .lit (.int .u8 11), .lit (.int .u8 5), .lit (.int .u8 10), .lit (.int .u8 9)]
def laid_math_bits_deBruijn64tab {H : Type} : DataW H := .agg [.lit (.int .u8 0), .lit (.int .u8 1), .lit (.int .u8 56), .lit (.int .u8 2), .lit (.int .u8 57), .lit (.int .u8 49), .lit (.int .u8 28), .lit (.int .u8 3), .lit (.int .u8 61), .lit (.int .u8 58), .lit (.int .u8 42), .lit (.int .u8 50), .lit (.int .u8 38), .lit (.int .u8 29), .lit (.int .u8 17), .lit (.int .u8 4), .lit (.int .u8 62), .lit (.int .u8 47), .lit (.int .u8 59), .lit (.int .u8 36), .lit (.int .u8 45), .lit (.int .u8 43), .lit (.int .u8 51), .lit (.int .u8 22), .lit (.int .u8 53), .lit (.int .u8 39), .lit (.int .u8 33), .lit (.int .u8 30), .lit (.int .u8 24), .lit (.int .u8 18), .lit (.int .u8 12), .lit (.int .u8 5), .lit (.int .u8 63), .lit (.int .u8 55), .lit (.int .u8 48), .lit (.int .u8 27), .lit (.int .u8 60), .lit (.int .u8 41), .lit (.int .u8 37), .lit (.int .u8 16), .lit (.int .u8 46), .lit (.int .u8 35), .lit (.int .u8 44), .lit (.int .u8 21), .lit (.int .u8 52), .lit (.int .u8 32), .lit (.int .u8 23), .lit (.int .u8 11), .lit (.int .u8 54), .lit (.int .u8 26), .lit (.int .u8 40), .lit (.int .u8 15), .lit (.int .u8 34), .lit (.int .u8 20), .lit (.int .u8 31), .lit (.int .u8 10), .lit (.int .u8 25), .lit (.int .u8 14), .lit (.int .u8 19), .lit (.int .u8 9), .lit (.int .u8 13), .lit (.int .u8 8), .lit (.int .u8 7), .lit (.int .u8 6)]
def laid_internal_strconv_uint64pow10 {H : Type} : DataW H := .agg [.lit (.int .u64 1), .lit (.int .u64 10), .lit (.int .u64 100), .lit (.int .u64 1000), .lit (.int .u64 10000), .lit (.int .u64 100000), .lit (.int .u64 1000000), .lit (.int .u64 10000000), .lit (.int .u64 100000000), .lit (.int .u64 1000000000), .lit (.int .u64 10000000000), .lit (.int .u64 100000000000), .lit (.int .u64 1000000000000), .lit (.int .u64 10000000000000), .lit (.int .u64 100000000000000), .lit (.int .u64 1000000000000000), .lit (.int .u64 10000000000000000), .lit (.int .u64 100000000000000000), .lit (.int .u64 1000000000000000000), .lit (.int .u64 10000000000000000000)]
def laid_strconv_ErrRange {H : Type} : DataW H := .iface "*errors.errorString" (.ptr (.agg [.lit (.string [118, 97, 108, 117, 101, 32, 111, 117, 116, 32, 111, 102, 32, 114, 97, 110, 103, 101])]))
def laid_strconv_ErrSyntax {H : Type} : DataW H := .iface "*errors.errorString" (.ptr (.agg [.lit (.string [105, 110, 118, 97, 108, 105, 100, 32, 115, 121, 110, 116, 97, 120])]))

/-- 'chcsolverlaw05.SubstApply': WHATEVER THE INPUT: true; the input reads as it did. -/
def substApplySpec : ChangeSpec := { name := "substApply", fn := fun _ => fun
  | [d1, d2] => { results := [.lit (.bool true)], args := [d1, d2] }
  | _ => none }
def substApplyRow : OpenClaim := { program := "ytabcdhcpilpojaagreatdoor", sum := "cdbdda34a2e3e206dd88249651cb32ec72f4fff6cedd00a2effd47bce1feccef", func := "chcsolver/chcsolverlaw05.SubstApply", spec := "substApply", inPlace := ["internal/bytealg.IndexByteString", "internal/bytealg.IndexString"], unfollowed := true, recurses := true, named := ["internal/bytealg.MaxLen", "strconv.ErrSyntax", "strconv.ErrRange", "internal/strconv.uint64pow10", "math/bits.deBruijn32tab", "math/bits.deBruijn64tab"], apart := false, laid := [("math/bits.deBruijn32tab", laid_math_bits_deBruijn32tab), ("math/bits.deBruijn64tab", laid_math_bits_deBruijn64tab), ("internal/strconv.uint64pow10", laid_internal_strconv_uint64pow10), ("strconv.ErrRange", laid_strconv_ErrRange), ("strconv.ErrSyntax", laid_strconv_ErrSyntax)] }
def SubstApplySaid : Prop := substApplyRow.holds Tryz.pinned (OpenSpec.ofChange substApplySpec)

/-- ITS FALSE NEIGHBOUR: 'it returns false'. Refute it at one input. -/
def substApplyWrong : ChangeSpec := { name := "substApply", fn := fun _ => fun
  | [d1, d2] => { results := [.lit (.bool false)], args := [d1, d2] }
  | _ => none }
def SubstApplyWrongFalsely : Prop := substApplyRow.holds Tryz.pinned (OpenSpec.ofChange substApplyWrong)

/-- 'chcsolverlaw05.SubstValue': WHATEVER THE INPUT: true; the input reads as it did. -/
def substValueSpec : ChangeSpec := { name := "substValue", fn := fun _ => fun
  | [d1, d2, d3] => { results := [.lit (.bool true)], args := [d1, d2, d3] }
  | _ => none }
def substValueRow : OpenClaim := { program := "ytabcdhcpilpojaagreatdoor", sum := "cdbdda34a2e3e206dd88249651cb32ec72f4fff6cedd00a2effd47bce1feccef", func := "chcsolver/chcsolverlaw05.SubstValue", spec := "substValue", inPlace := ["internal/bytealg.IndexByteString", "internal/bytealg.IndexString"], unfollowed := true, recurses := true, named := ["internal/bytealg.MaxLen", "strconv.ErrSyntax", "strconv.ErrRange", "internal/strconv.uint64pow10", "math/bits.deBruijn32tab", "math/bits.deBruijn64tab"], apart := false, laid := [("math/bits.deBruijn32tab", laid_math_bits_deBruijn32tab), ("math/bits.deBruijn64tab", laid_math_bits_deBruijn64tab), ("internal/strconv.uint64pow10", laid_internal_strconv_uint64pow10), ("strconv.ErrRange", laid_strconv_ErrRange), ("strconv.ErrSyntax", laid_strconv_ErrSyntax)] }
def SubstValueSaid : Prop := substValueRow.holds Tryz.pinned (OpenSpec.ofChange substValueSpec)

/-- ITS FALSE NEIGHBOUR: 'it returns false'. Refute it at one input. -/
def substValueWrong : ChangeSpec := { name := "substValue", fn := fun _ => fun
  | [d1, d2, d3] => { results := [.lit (.bool false)], args := [d1, d2, d3] }
  | _ => none }
def SubstValueWrongFalsely : Prop := substValueRow.holds Tryz.pinned (OpenSpec.ofChange substValueWrong)

/-- 'chcsolverlaw05.SubstFresh': WHATEVER THE INPUT: true; the input reads as it did. -/
def substFreshSpec : ChangeSpec := { name := "substFresh", fn := fun _ => fun
  | [d1, d2, d3] => { results := [.lit (.bool true)], args := [d1, d2, d3] }
  | _ => none }
def substFreshRow : OpenClaim := { program := "ytabcdhcpilpojaagreatdoor", sum := "cdbdda34a2e3e206dd88249651cb32ec72f4fff6cedd00a2effd47bce1feccef", func := "chcsolver/chcsolverlaw05.SubstFresh", spec := "substFresh", inPlace := ["internal/bytealg.IndexByteString", "internal/bytealg.IndexString"], unfollowed := true, recurses := true, named := ["internal/bytealg.MaxLen", "strconv.ErrSyntax", "strconv.ErrRange", "internal/strconv.uint64pow10", "math/bits.deBruijn32tab", "math/bits.deBruijn64tab"], apart := false, laid := [("math/bits.deBruijn32tab", laid_math_bits_deBruijn32tab), ("math/bits.deBruijn64tab", laid_math_bits_deBruijn64tab), ("internal/strconv.uint64pow10", laid_internal_strconv_uint64pow10), ("strconv.ErrRange", laid_strconv_ErrRange), ("strconv.ErrSyntax", laid_strconv_ErrSyntax)] }
def SubstFreshSaid : Prop := substFreshRow.holds Tryz.pinned (OpenSpec.ofChange substFreshSpec)

/-- ITS FALSE NEIGHBOUR: 'it returns false'. Refute it at one input. -/
def substFreshWrong : ChangeSpec := { name := "substFresh", fn := fun _ => fun
  | [d1, d2, d3] => { results := [.lit (.bool false)], args := [d1, d2, d3] }
  | _ => none }
def SubstFreshWrongFalsely : Prop := substFreshRow.holds Tryz.pinned (OpenSpec.ofChange substFreshWrong)

/-- 'chcsolverlaw05.SubstApplyRaw': WHATEVER THE INPUT: true; the input reads as it did. -/
def substApplyRawSpec : ChangeSpec := { name := "substApplyRaw", fn := fun _ => fun
  | [d1, d2, d3, d4] => { results := [.lit (.bool true)], args := [d1, d2, d3, d4] }
  | _ => none }
def substApplyRawRow : OpenClaim := { program := "ytabcdhcpilpojaagreatdoor", sum := "cdbdda34a2e3e206dd88249651cb32ec72f4fff6cedd00a2effd47bce1feccef", func := "chcsolver/chcsolverlaw05.SubstApplyRaw", spec := "substApplyRaw", inPlace := ["internal/bytealg.IndexByteString", "internal/bytealg.IndexString"], unfollowed := true, recurses := true, named := ["internal/bytealg.MaxLen", "strconv.ErrSyntax", "strconv.ErrRange", "internal/strconv.uint64pow10", "math/bits.deBruijn32tab", "math/bits.deBruijn64tab"], apart := false, laid := [("math/bits.deBruijn32tab", laid_math_bits_deBruijn32tab), ("math/bits.deBruijn64tab", laid_math_bits_deBruijn64tab), ("internal/strconv.uint64pow10", laid_internal_strconv_uint64pow10), ("strconv.ErrRange", laid_strconv_ErrRange), ("strconv.ErrSyntax", laid_strconv_ErrSyntax)] }
def SubstApplyRawSaid : Prop := substApplyRawRow.holds Tryz.pinned (OpenSpec.ofChange substApplyRawSpec)

/-- ITS FALSE NEIGHBOUR: 'it returns false'. Refute it at one input. -/
def substApplyRawWrong : ChangeSpec := { name := "substApplyRaw", fn := fun _ => fun
  | [d1, d2, d3, d4] => { results := [.lit (.bool false)], args := [d1, d2, d3, d4] }
  | _ => none }
def SubstApplyRawWrongFalsely : Prop := substApplyRawRow.holds Tryz.pinned (OpenSpec.ofChange substApplyRawWrong)

/-- 'chcsolverlaw05.SubstReplace': WHATEVER THE INPUT: true; the input reads as it did. -/
def substReplaceSpec : ChangeSpec := { name := "substReplace", fn := fun _ => fun
  | [d1, d2, d3] => { results := [.lit (.bool true)], args := [d1, d2, d3] }
  | _ => none }
def substReplaceRow : OpenClaim := { program := "ytabcdhcpilpojaagreatdoor", sum := "cdbdda34a2e3e206dd88249651cb32ec72f4fff6cedd00a2effd47bce1feccef", func := "chcsolver/chcsolverlaw05.SubstReplace", spec := "substReplace", inPlace := ["internal/bytealg.IndexByteString", "internal/bytealg.IndexString"], unfollowed := true, recurses := true, named := ["internal/bytealg.MaxLen", "strconv.ErrSyntax", "strconv.ErrRange", "internal/strconv.uint64pow10", "math/bits.deBruijn32tab", "math/bits.deBruijn64tab"], apart := false, laid := [("math/bits.deBruijn32tab", laid_math_bits_deBruijn32tab), ("math/bits.deBruijn64tab", laid_math_bits_deBruijn64tab), ("internal/strconv.uint64pow10", laid_internal_strconv_uint64pow10), ("strconv.ErrRange", laid_strconv_ErrRange), ("strconv.ErrSyntax", laid_strconv_ErrSyntax)] }
def SubstReplaceSaid : Prop := substReplaceRow.holds Tryz.pinned (OpenSpec.ofChange substReplaceSpec)

/-- ITS FALSE NEIGHBOUR: 'it returns false'. Refute it at one input. -/
def substReplaceWrong : ChangeSpec := { name := "substReplace", fn := fun _ => fun
  | [d1, d2, d3] => { results := [.lit (.bool false)], args := [d1, d2, d3] }
  | _ => none }
def SubstReplaceWrongFalsely : Prop := substReplaceRow.holds Tryz.pinned (OpenSpec.ofChange substReplaceWrong)

/-- 'chcsolverlaw05.SubstReplaceValue': WHATEVER THE INPUT: true; the input reads as it did. -/
def substReplaceValueSpec : ChangeSpec := { name := "substReplaceValue", fn := fun _ => fun
  | [d1, d2, d3] => { results := [.lit (.bool true)], args := [d1, d2, d3] }
  | _ => none }
def substReplaceValueRow : OpenClaim := { program := "ytabcdhcpilpojaagreatdoor", sum := "cdbdda34a2e3e206dd88249651cb32ec72f4fff6cedd00a2effd47bce1feccef", func := "chcsolver/chcsolverlaw05.SubstReplaceValue", spec := "substReplaceValue", inPlace := ["internal/bytealg.IndexByteString", "internal/bytealg.IndexString"], unfollowed := true, recurses := true, named := ["internal/bytealg.MaxLen", "strconv.ErrSyntax", "strconv.ErrRange", "internal/strconv.uint64pow10", "math/bits.deBruijn32tab", "math/bits.deBruijn64tab"], apart := false, laid := [("math/bits.deBruijn32tab", laid_math_bits_deBruijn32tab), ("math/bits.deBruijn64tab", laid_math_bits_deBruijn64tab), ("internal/strconv.uint64pow10", laid_internal_strconv_uint64pow10), ("strconv.ErrRange", laid_strconv_ErrRange), ("strconv.ErrSyntax", laid_strconv_ErrSyntax)] }
def SubstReplaceValueSaid : Prop := substReplaceValueRow.holds Tryz.pinned (OpenSpec.ofChange substReplaceValueSpec)

/-- ITS FALSE NEIGHBOUR: 'it returns false'. Refute it at one input. -/
def substReplaceValueWrong : ChangeSpec := { name := "substReplaceValue", fn := fun _ => fun
  | [d1, d2, d3] => { results := [.lit (.bool false)], args := [d1, d2, d3] }
  | _ => none }
def SubstReplaceValueWrongFalsely : Prop := substReplaceValueRow.holds Tryz.pinned (OpenSpec.ofChange substReplaceValueWrong)

/-- 'chcsolverlaw05.SubstRename': WHATEVER THE INPUT: true; the input reads as it did. -/
def substRenameSpec : ChangeSpec := { name := "substRename", fn := fun _ => fun
  | [d1, d2, d3, d4] => { results := [.lit (.bool true)], args := [d1, d2, d3, d4] }
  | _ => none }
def substRenameRow : OpenClaim := { program := "ytabcdhcpilpojaagreatdoor", sum := "cdbdda34a2e3e206dd88249651cb32ec72f4fff6cedd00a2effd47bce1feccef", func := "chcsolver/chcsolverlaw05.SubstRename", spec := "substRename", inPlace := ["internal/bytealg.IndexByteString", "internal/bytealg.IndexString"], unfollowed := true, recurses := true, named := ["internal/bytealg.MaxLen", "strconv.ErrSyntax", "strconv.ErrRange", "internal/strconv.uint64pow10", "math/bits.deBruijn32tab", "math/bits.deBruijn64tab"], apart := false, laid := [("math/bits.deBruijn32tab", laid_math_bits_deBruijn32tab), ("math/bits.deBruijn64tab", laid_math_bits_deBruijn64tab), ("internal/strconv.uint64pow10", laid_internal_strconv_uint64pow10), ("strconv.ErrRange", laid_strconv_ErrRange), ("strconv.ErrSyntax", laid_strconv_ErrSyntax)] }
def SubstRenameSaid : Prop := substRenameRow.holds Tryz.pinned (OpenSpec.ofChange substRenameSpec)

/-- ITS FALSE NEIGHBOUR: 'it returns false'. Refute it at one input. -/
def substRenameWrong : ChangeSpec := { name := "substRename", fn := fun _ => fun
  | [d1, d2, d3, d4] => { results := [.lit (.bool false)], args := [d1, d2, d3, d4] }
  | _ => none }
def SubstRenameWrongFalsely : Prop := substRenameRow.holds Tryz.pinned (OpenSpec.ofChange substRenameWrong)

/-- 'chcsolverlaw05.SubstRenameBack': WHATEVER THE INPUT: true; the input reads as it did. -/
def substRenameBackSpec : ChangeSpec := { name := "substRenameBack", fn := fun _ => fun
  | [d] => { results := [.lit (.bool true)], args := [d] }
  | _ => none }
def substRenameBackRow : OpenClaim := { program := "ytabcdhcpilpojaagreatdoor", sum := "cdbdda34a2e3e206dd88249651cb32ec72f4fff6cedd00a2effd47bce1feccef", func := "chcsolver/chcsolverlaw05.SubstRenameBack", spec := "substRenameBack", inPlace := ["internal/bytealg.IndexByteString", "internal/bytealg.IndexString"], unfollowed := true, recurses := true, named := ["internal/bytealg.MaxLen", "strconv.ErrSyntax", "strconv.ErrRange", "internal/strconv.uint64pow10", "math/bits.deBruijn32tab", "math/bits.deBruijn64tab"], apart := false, laid := [("math/bits.deBruijn32tab", laid_math_bits_deBruijn32tab), ("math/bits.deBruijn64tab", laid_math_bits_deBruijn64tab), ("internal/strconv.uint64pow10", laid_internal_strconv_uint64pow10), ("strconv.ErrRange", laid_strconv_ErrRange), ("strconv.ErrSyntax", laid_strconv_ErrSyntax)] }
def SubstRenameBackSaid : Prop := substRenameBackRow.holds Tryz.pinned (OpenSpec.ofChange substRenameBackSpec)

/-- ITS FALSE NEIGHBOUR: 'it returns false'. Refute it at one input. -/
def substRenameBackWrong : ChangeSpec := { name := "substRenameBack", fn := fun _ => fun
  | [d] => { results := [.lit (.bool false)], args := [d] }
  | _ => none }
def SubstRenameBackWrongFalsely : Prop := substRenameBackRow.holds Tryz.pinned (OpenSpec.ofChange substRenameBackWrong)

/-- 'chcsolverlaw05.SubstDefinitions': WHATEVER THE INPUT: true; the input reads as it did. -/
def substDefinitionsSpec : ChangeSpec := { name := "substDefinitions", fn := fun _ => fun
  | [d1, d2] => { results := [.lit (.bool true)], args := [d1, d2] }
  | _ => none }
def substDefinitionsRow : OpenClaim := { program := "ytabcdhcpilpojaagreatdoor", sum := "cdbdda34a2e3e206dd88249651cb32ec72f4fff6cedd00a2effd47bce1feccef", func := "chcsolver/chcsolverlaw05.SubstDefinitions", spec := "substDefinitions", inPlace := ["internal/bytealg.IndexByteString", "internal/bytealg.IndexString"], unfollowed := true, recurses := true, named := ["internal/bytealg.MaxLen", "strconv.ErrSyntax", "strconv.ErrRange", "internal/strconv.uint64pow10", "math/bits.deBruijn32tab", "math/bits.deBruijn64tab"], apart := false, laid := [("math/bits.deBruijn32tab", laid_math_bits_deBruijn32tab), ("math/bits.deBruijn64tab", laid_math_bits_deBruijn64tab), ("internal/strconv.uint64pow10", laid_internal_strconv_uint64pow10), ("strconv.ErrRange", laid_strconv_ErrRange), ("strconv.ErrSyntax", laid_strconv_ErrSyntax)] }
def SubstDefinitionsSaid : Prop := substDefinitionsRow.holds Tryz.pinned (OpenSpec.ofChange substDefinitionsSpec)

/-- ITS FALSE NEIGHBOUR: 'it returns false'. Refute it at one input. -/
def substDefinitionsWrong : ChangeSpec := { name := "substDefinitions", fn := fun _ => fun
  | [d1, d2] => { results := [.lit (.bool false)], args := [d1, d2] }
  | _ => none }
def SubstDefinitionsWrongFalsely : Prop := substDefinitionsRow.holds Tryz.pinned (OpenSpec.ofChange substDefinitionsWrong)

/-- 'chcsolverlaw05.SubstCompose': WHATEVER THE INPUT: true; the input reads as it did. -/
def substComposeSpec : ChangeSpec := { name := "substCompose", fn := fun _ => fun
  | [d1, d2, d3] => { results := [.lit (.bool true)], args := [d1, d2, d3] }
  | _ => none }
def substComposeRow : OpenClaim := { program := "ytabcdhcpilpojaagreatdoor", sum := "cdbdda34a2e3e206dd88249651cb32ec72f4fff6cedd00a2effd47bce1feccef", func := "chcsolver/chcsolverlaw05.SubstCompose", spec := "substCompose", inPlace := ["internal/bytealg.IndexByteString", "internal/bytealg.IndexString"], unfollowed := true, recurses := true, named := ["internal/bytealg.MaxLen", "strconv.ErrSyntax", "strconv.ErrRange", "internal/strconv.uint64pow10", "math/bits.deBruijn32tab", "math/bits.deBruijn64tab"], apart := false, laid := [("math/bits.deBruijn32tab", laid_math_bits_deBruijn32tab), ("math/bits.deBruijn64tab", laid_math_bits_deBruijn64tab), ("internal/strconv.uint64pow10", laid_internal_strconv_uint64pow10), ("strconv.ErrRange", laid_strconv_ErrRange), ("strconv.ErrSyntax", laid_strconv_ErrSyntax)] }
def SubstComposeSaid : Prop := substComposeRow.holds Tryz.pinned (OpenSpec.ofChange substComposeSpec)

/-- ITS FALSE NEIGHBOUR: 'it returns false'. Refute it at one input. -/
def substComposeWrong : ChangeSpec := { name := "substCompose", fn := fun _ => fun
  | [d1, d2, d3] => { results := [.lit (.bool false)], args := [d1, d2, d3] }
  | _ => none }
def SubstComposeWrongFalsely : Prop := substComposeRow.holds Tryz.pinned (OpenSpec.ofChange substComposeWrong)

/- THE SECOND FORM. 'bulk': how many values and letters a reading holds, each counted each time it is reached (what is shared counts as often as it is met; a slice's spare places count too). A statement '..UptoSaid' is the law's where the arguments, and the package variables that the reading takes, are together of bulk at most 1048576: NARROWER than '..Said'. Prove '..Said' where nothing that the law and all that it calls make is longer than what came in: it says more and counts as full. Else prove '..UptoSaid'. A law counts once. -/
mutual
def uptoBulk {H : Type} : DataW H → Nat
  | .lit (.string bytes) => bytes.length + 1
  | .lit _ => 1
  | .nil => 1
  | .ptr d => uptoBulk d + 1
  | .slice elems spare => uptoBulkAll elems + uptoBulkAll spare + 1
  | .agg parts => uptoBulkAll parts + 1
  | .iface _ d => uptoBulk d + 1
  | .map entries => uptoBulkEntries entries + 1
  | .held _ => 1
def uptoBulkAll {H : Type} : List (DataW H) → Nat
  | [] => 0
  | d :: r => uptoBulk d + uptoBulkAll r
def uptoBulkEntries {H : Type} : List (Lit × DataW H) → Nat
  | [] => 0
  | x :: r => uptoBulkEntry x + uptoBulkEntries r
def uptoBulkEntry {H : Type} : Lit × DataW H → Nat
  | (.string bytes, d) => bytes.length + uptoBulk d + 1
  | (_, d) => uptoBulk d + 1
 end
def uptoSmall : (H : Type) → List (DataW H) → Bool := fun _ ds => decide (uptoBulkAll ds ≤ 1048576)
def OpenSpec.upto (s : _root_.Go.ChangeSpec) : _root_.Go.OpenSpec := { _root_.Go.OpenSpec.ofChange s with cond := some uptoSmall }

/-- 'chcsolverlaw05.SubstApply', WHERE WHAT IT READS IS OF BULK AT MOST 1048576: true; the input reads as it did. -/
def substApplyUptoRow : OpenClaim := { program := "ytabcdhcpilpojaagreatdoor", sum := "cdbdda34a2e3e206dd88249651cb32ec72f4fff6cedd00a2effd47bce1feccef", func := "chcsolver/chcsolverlaw05.SubstApply", spec := "substApply", inPlace := ["internal/bytealg.IndexByteString", "internal/bytealg.IndexString"], unfollowed := true, recurses := true, named := ["internal/bytealg.MaxLen", "strconv.ErrSyntax", "strconv.ErrRange", "internal/strconv.uint64pow10", "math/bits.deBruijn32tab", "math/bits.deBruijn64tab"], apart := false, laid := [("math/bits.deBruijn32tab", laid_math_bits_deBruijn32tab), ("math/bits.deBruijn64tab", laid_math_bits_deBruijn64tab), ("internal/strconv.uint64pow10", laid_internal_strconv_uint64pow10), ("strconv.ErrRange", laid_strconv_ErrRange), ("strconv.ErrSyntax", laid_strconv_ErrSyntax)], narrowed := true }
def SubstApplyUptoSaid : Prop := substApplyUptoRow.holds Tryz.pinned (OpenSpec.upto substApplySpec)

/-- 'chcsolverlaw05.SubstValue', WHERE WHAT IT READS IS OF BULK AT MOST 1048576: true; the input reads as it did. -/
def substValueUptoRow : OpenClaim := { program := "ytabcdhcpilpojaagreatdoor", sum := "cdbdda34a2e3e206dd88249651cb32ec72f4fff6cedd00a2effd47bce1feccef", func := "chcsolver/chcsolverlaw05.SubstValue", spec := "substValue", inPlace := ["internal/bytealg.IndexByteString", "internal/bytealg.IndexString"], unfollowed := true, recurses := true, named := ["internal/bytealg.MaxLen", "strconv.ErrSyntax", "strconv.ErrRange", "internal/strconv.uint64pow10", "math/bits.deBruijn32tab", "math/bits.deBruijn64tab"], apart := false, laid := [("math/bits.deBruijn32tab", laid_math_bits_deBruijn32tab), ("math/bits.deBruijn64tab", laid_math_bits_deBruijn64tab), ("internal/strconv.uint64pow10", laid_internal_strconv_uint64pow10), ("strconv.ErrRange", laid_strconv_ErrRange), ("strconv.ErrSyntax", laid_strconv_ErrSyntax)], narrowed := true }
def SubstValueUptoSaid : Prop := substValueUptoRow.holds Tryz.pinned (OpenSpec.upto substValueSpec)

/-- 'chcsolverlaw05.SubstFresh', WHERE WHAT IT READS IS OF BULK AT MOST 1048576: true; the input reads as it did. -/
def substFreshUptoRow : OpenClaim := { program := "ytabcdhcpilpojaagreatdoor", sum := "cdbdda34a2e3e206dd88249651cb32ec72f4fff6cedd00a2effd47bce1feccef", func := "chcsolver/chcsolverlaw05.SubstFresh", spec := "substFresh", inPlace := ["internal/bytealg.IndexByteString", "internal/bytealg.IndexString"], unfollowed := true, recurses := true, named := ["internal/bytealg.MaxLen", "strconv.ErrSyntax", "strconv.ErrRange", "internal/strconv.uint64pow10", "math/bits.deBruijn32tab", "math/bits.deBruijn64tab"], apart := false, laid := [("math/bits.deBruijn32tab", laid_math_bits_deBruijn32tab), ("math/bits.deBruijn64tab", laid_math_bits_deBruijn64tab), ("internal/strconv.uint64pow10", laid_internal_strconv_uint64pow10), ("strconv.ErrRange", laid_strconv_ErrRange), ("strconv.ErrSyntax", laid_strconv_ErrSyntax)], narrowed := true }
def SubstFreshUptoSaid : Prop := substFreshUptoRow.holds Tryz.pinned (OpenSpec.upto substFreshSpec)

/-- 'chcsolverlaw05.SubstApplyRaw', WHERE WHAT IT READS IS OF BULK AT MOST 1048576: true; the input reads as it did. -/
def substApplyRawUptoRow : OpenClaim := { program := "ytabcdhcpilpojaagreatdoor", sum := "cdbdda34a2e3e206dd88249651cb32ec72f4fff6cedd00a2effd47bce1feccef", func := "chcsolver/chcsolverlaw05.SubstApplyRaw", spec := "substApplyRaw", inPlace := ["internal/bytealg.IndexByteString", "internal/bytealg.IndexString"], unfollowed := true, recurses := true, named := ["internal/bytealg.MaxLen", "strconv.ErrSyntax", "strconv.ErrRange", "internal/strconv.uint64pow10", "math/bits.deBruijn32tab", "math/bits.deBruijn64tab"], apart := false, laid := [("math/bits.deBruijn32tab", laid_math_bits_deBruijn32tab), ("math/bits.deBruijn64tab", laid_math_bits_deBruijn64tab), ("internal/strconv.uint64pow10", laid_internal_strconv_uint64pow10), ("strconv.ErrRange", laid_strconv_ErrRange), ("strconv.ErrSyntax", laid_strconv_ErrSyntax)], narrowed := true }
def SubstApplyRawUptoSaid : Prop := substApplyRawUptoRow.holds Tryz.pinned (OpenSpec.upto substApplyRawSpec)

/-- 'chcsolverlaw05.SubstReplace', WHERE WHAT IT READS IS OF BULK AT MOST 1048576: true; the input reads as it did. -/
def substReplaceUptoRow : OpenClaim := { program := "ytabcdhcpilpojaagreatdoor", sum := "cdbdda34a2e3e206dd88249651cb32ec72f4fff6cedd00a2effd47bce1feccef", func := "chcsolver/chcsolverlaw05.SubstReplace", spec := "substReplace", inPlace := ["internal/bytealg.IndexByteString", "internal/bytealg.IndexString"], unfollowed := true, recurses := true, named := ["internal/bytealg.MaxLen", "strconv.ErrSyntax", "strconv.ErrRange", "internal/strconv.uint64pow10", "math/bits.deBruijn32tab", "math/bits.deBruijn64tab"], apart := false, laid := [("math/bits.deBruijn32tab", laid_math_bits_deBruijn32tab), ("math/bits.deBruijn64tab", laid_math_bits_deBruijn64tab), ("internal/strconv.uint64pow10", laid_internal_strconv_uint64pow10), ("strconv.ErrRange", laid_strconv_ErrRange), ("strconv.ErrSyntax", laid_strconv_ErrSyntax)], narrowed := true }
def SubstReplaceUptoSaid : Prop := substReplaceUptoRow.holds Tryz.pinned (OpenSpec.upto substReplaceSpec)

/-- 'chcsolverlaw05.SubstReplaceValue', WHERE WHAT IT READS IS OF BULK AT MOST 1048576: true; the input reads as it did. -/
def substReplaceValueUptoRow : OpenClaim := { program := "ytabcdhcpilpojaagreatdoor", sum := "cdbdda34a2e3e206dd88249651cb32ec72f4fff6cedd00a2effd47bce1feccef", func := "chcsolver/chcsolverlaw05.SubstReplaceValue", spec := "substReplaceValue", inPlace := ["internal/bytealg.IndexByteString", "internal/bytealg.IndexString"], unfollowed := true, recurses := true, named := ["internal/bytealg.MaxLen", "strconv.ErrSyntax", "strconv.ErrRange", "internal/strconv.uint64pow10", "math/bits.deBruijn32tab", "math/bits.deBruijn64tab"], apart := false, laid := [("math/bits.deBruijn32tab", laid_math_bits_deBruijn32tab), ("math/bits.deBruijn64tab", laid_math_bits_deBruijn64tab), ("internal/strconv.uint64pow10", laid_internal_strconv_uint64pow10), ("strconv.ErrRange", laid_strconv_ErrRange), ("strconv.ErrSyntax", laid_strconv_ErrSyntax)], narrowed := true }
def SubstReplaceValueUptoSaid : Prop := substReplaceValueUptoRow.holds Tryz.pinned (OpenSpec.upto substReplaceValueSpec)

/-- 'chcsolverlaw05.SubstRename', WHERE WHAT IT READS IS OF BULK AT MOST 1048576: true; the input reads as it did. -/
def substRenameUptoRow : OpenClaim := { program := "ytabcdhcpilpojaagreatdoor", sum := "cdbdda34a2e3e206dd88249651cb32ec72f4fff6cedd00a2effd47bce1feccef", func := "chcsolver/chcsolverlaw05.SubstRename", spec := "substRename", inPlace := ["internal/bytealg.IndexByteString", "internal/bytealg.IndexString"], unfollowed := true, recurses := true, named := ["internal/bytealg.MaxLen", "strconv.ErrSyntax", "strconv.ErrRange", "internal/strconv.uint64pow10", "math/bits.deBruijn32tab", "math/bits.deBruijn64tab"], apart := false, laid := [("math/bits.deBruijn32tab", laid_math_bits_deBruijn32tab), ("math/bits.deBruijn64tab", laid_math_bits_deBruijn64tab), ("internal/strconv.uint64pow10", laid_internal_strconv_uint64pow10), ("strconv.ErrRange", laid_strconv_ErrRange), ("strconv.ErrSyntax", laid_strconv_ErrSyntax)], narrowed := true }
def SubstRenameUptoSaid : Prop := substRenameUptoRow.holds Tryz.pinned (OpenSpec.upto substRenameSpec)

/-- 'chcsolverlaw05.SubstRenameBack', WHERE WHAT IT READS IS OF BULK AT MOST 1048576: true; the input reads as it did. -/
def substRenameBackUptoRow : OpenClaim := { program := "ytabcdhcpilpojaagreatdoor", sum := "cdbdda34a2e3e206dd88249651cb32ec72f4fff6cedd00a2effd47bce1feccef", func := "chcsolver/chcsolverlaw05.SubstRenameBack", spec := "substRenameBack", inPlace := ["internal/bytealg.IndexByteString", "internal/bytealg.IndexString"], unfollowed := true, recurses := true, named := ["internal/bytealg.MaxLen", "strconv.ErrSyntax", "strconv.ErrRange", "internal/strconv.uint64pow10", "math/bits.deBruijn32tab", "math/bits.deBruijn64tab"], apart := false, laid := [("math/bits.deBruijn32tab", laid_math_bits_deBruijn32tab), ("math/bits.deBruijn64tab", laid_math_bits_deBruijn64tab), ("internal/strconv.uint64pow10", laid_internal_strconv_uint64pow10), ("strconv.ErrRange", laid_strconv_ErrRange), ("strconv.ErrSyntax", laid_strconv_ErrSyntax)], narrowed := true }
def SubstRenameBackUptoSaid : Prop := substRenameBackUptoRow.holds Tryz.pinned (OpenSpec.upto substRenameBackSpec)

/-- 'chcsolverlaw05.SubstDefinitions', WHERE WHAT IT READS IS OF BULK AT MOST 1048576: true; the input reads as it did. -/
def substDefinitionsUptoRow : OpenClaim := { program := "ytabcdhcpilpojaagreatdoor", sum := "cdbdda34a2e3e206dd88249651cb32ec72f4fff6cedd00a2effd47bce1feccef", func := "chcsolver/chcsolverlaw05.SubstDefinitions", spec := "substDefinitions", inPlace := ["internal/bytealg.IndexByteString", "internal/bytealg.IndexString"], unfollowed := true, recurses := true, named := ["internal/bytealg.MaxLen", "strconv.ErrSyntax", "strconv.ErrRange", "internal/strconv.uint64pow10", "math/bits.deBruijn32tab", "math/bits.deBruijn64tab"], apart := false, laid := [("math/bits.deBruijn32tab", laid_math_bits_deBruijn32tab), ("math/bits.deBruijn64tab", laid_math_bits_deBruijn64tab), ("internal/strconv.uint64pow10", laid_internal_strconv_uint64pow10), ("strconv.ErrRange", laid_strconv_ErrRange), ("strconv.ErrSyntax", laid_strconv_ErrSyntax)], narrowed := true }
def SubstDefinitionsUptoSaid : Prop := substDefinitionsUptoRow.holds Tryz.pinned (OpenSpec.upto substDefinitionsSpec)

/-- 'chcsolverlaw05.SubstCompose', WHERE WHAT IT READS IS OF BULK AT MOST 1048576: true; the input reads as it did. -/
def substComposeUptoRow : OpenClaim := { program := "ytabcdhcpilpojaagreatdoor", sum := "cdbdda34a2e3e206dd88249651cb32ec72f4fff6cedd00a2effd47bce1feccef", func := "chcsolver/chcsolverlaw05.SubstCompose", spec := "substCompose", inPlace := ["internal/bytealg.IndexByteString", "internal/bytealg.IndexString"], unfollowed := true, recurses := true, named := ["internal/bytealg.MaxLen", "strconv.ErrSyntax", "strconv.ErrRange", "internal/strconv.uint64pow10", "math/bits.deBruijn32tab", "math/bits.deBruijn64tab"], apart := false, laid := [("math/bits.deBruijn32tab", laid_math_bits_deBruijn32tab), ("math/bits.deBruijn64tab", laid_math_bits_deBruijn64tab), ("internal/strconv.uint64pow10", laid_internal_strconv_uint64pow10), ("strconv.ErrRange", laid_strconv_ErrRange), ("strconv.ErrSyntax", laid_strconv_ErrSyntax)], narrowed := true }
def SubstComposeUptoSaid : Prop := substComposeUptoRow.holds Tryz.pinned (OpenSpec.upto substComposeSpec)

end Rows
end Go.Proofs.YtabcdhcpilpojaaGreatDoor
