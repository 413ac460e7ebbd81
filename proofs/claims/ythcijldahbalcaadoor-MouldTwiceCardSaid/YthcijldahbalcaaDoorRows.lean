/-
  NARROWER THAN 'FOR EVERY INPUT', by the rows' own cells (each row's printed sentence says how): ValWidth: laid · ValSame: laid · ValBack: laid · TypedPacks: laid · TypedElements: laid · ValInts: laid · TypedNarrow: laid · TypedBytes: laid · TypedBack: laid · MouldIota: laid · MouldTwice: laid · MouldJoins: laid · MouldCuts: laid.
  DERIVED. THE GIVEN ROWS OF THIS SEAT. 13 by the template 'for every input the law returns true; each argument reads behind the call as it read before'; 0 by the template 'total and deterministic' (their statements: YthcijldahbalcaaDoorTotals.lean).
  GIVEN WITH THE SEED: the statements are not yours to turn. If you find one false, say at which input.
  Laid BY PROGRAM, IN A SANDBOX (cutbox-rows.mjs): the forced cells as the released guide's own fill.sh prints them over the translation 9d22f5e41ae28f94… (all of the seat's roots in one cut). By AI agents, Wed Nov 11 2026. No macro, syntax, notation, axiom, sorry.
-/
import Derived.Test.YthcijldahbalcaaDoorChecked
import GoSem.Claim
import GoSem.ClaimJoined
import GoSem.ClaimMapViews
import Derived.JoinedTies
import Derived.KernelRfl
namespace Go.Proofs.YthcijldahbalcaaDoor
/- THE CELL 'sum', in the pinned program and in every row, IS THE sha256 OF THE DUMP (.gsa) THAT YthcijldahbalcaaDoorProg.lean LOADS. Nothing in Lean hashes anything: it is a label: what it is worth is what the hold of that sum in a sandbox is worth. -/
noncomputable def Tryd.pinned : Pinned := { name := "ythcijldahbalcaadoor", sum := "9d22f5e41ae28f94c9e4697daedf850bcfdb3c11c64d08552d26ecd94c4ae6e2", checked := Tryd.checked }
namespace Rows
def none {H : Type} : Left H := { results := [], args := [] }

/- WHAT THE LISTED PACKAGE-LEVEL VARIABLES READ AS WHEN THE CALL BEGINS. Each datum BY PROGRAM (the guide's laid-datum.mjs) off the statement by which the dump's own 'gosem.cut.vars' lays the variable. In a bare row this is a premise. The card (YthcijldahbalcaaDoorCards.lean) ties it to the program's text. -/
def laid_math_bits_deBruijn32tab {H : Type} : DataW H := .agg [.lit (.int .u8 0), .lit (.int .u8 1), .lit (.int .u8 28), .lit (.int .u8 2), .lit (.int .u8 29), .lit (.int .u8 14), .lit (.int .u8 24), .lit (.int .u8 3), .lit (.int .u8 30), .lit (.int .u8 22), .lit (.int .u8 20), .lit (.int .u8 15), .lit (.int .u8 25), .lit (.int .u8 17), .lit (.int .u8 4), .lit (.int .u8 8), .lit (.int .u8 31), .lit (.int .u8 27), .lit (.int .u8 13), .lit (.int .u8 23), .lit (.int .u8 21), .lit (.int .u8 19), .lit (.int .u8 16), .lit (.int .u8 7), .lit (.int .u8 26), .lit (.int .u8 12), .lit (.int .u8 18), .lit (.int .u8 6), .lit (.int .u8 11), .lit (.int .u8 5), .lit (.int .u8 10), .lit (.int .u8 9)]
def laid_math_bits_deBruijn64tab {H : Type} : DataW H := .agg [.lit (.int .u8 0), .lit (.int .u8 1), .lit (.int .u8 56), .lit (.int .u8 2), .lit (.int .u8 57), .lit (.int .u8 49), .lit (.int .u8 28), .lit (.int .u8 3), .lit (.int .u8 61), .lit (.int .u8 58), .lit (.int .u8 42), .lit (.int .u8 50), .lit (.int .u8 38), .lit (.int .u8 29), .lit (.int .u8 17), .lit (.int .u8 4), .lit (.int .u8 62), .lit (.int .u8 47), .lit (.int .u8 59), .lit (.int .u8 36), .lit (.int .u8 45), .lit (.int .u8 43), .lit (.int .u8 51), .lit (.int .u8 22), .lit (.int .u8 53), .lit (.int .u8 39), .lit (.int .u8 33), .lit (.int .u8 30), .lit (.int .u8 24), .lit (.int .u8 18), .lit (.int .u8 12), .lit (.int .u8 5), .lit (.int .u8 63), .lit (.int .u8 55), .lit (.int .u8 48), .lit (.int .u8 27), .lit (.int .u8 60), .lit (.int .u8 41), .lit (.int .u8 37), .lit (.int .u8 16), .lit (.int .u8 46), .lit (.int .u8 35), .lit (.int .u8 44), .lit (.int .u8 21), .lit (.int .u8 52), .lit (.int .u8 32), .lit (.int .u8 23), .lit (.int .u8 11), .lit (.int .u8 54), .lit (.int .u8 26), .lit (.int .u8 40), .lit (.int .u8 15), .lit (.int .u8 34), .lit (.int .u8 20), .lit (.int .u8 31), .lit (.int .u8 10), .lit (.int .u8 25), .lit (.int .u8 14), .lit (.int .u8 19), .lit (.int .u8 9), .lit (.int .u8 13), .lit (.int .u8 8), .lit (.int .u8 7), .lit (.int .u8 6)]
def laid_internal_strconv_uint64pow10 {H : Type} : DataW H := .agg [.lit (.int .u64 1), .lit (.int .u64 10), .lit (.int .u64 100), .lit (.int .u64 1000), .lit (.int .u64 10000), .lit (.int .u64 100000), .lit (.int .u64 1000000), .lit (.int .u64 10000000), .lit (.int .u64 100000000), .lit (.int .u64 1000000000), .lit (.int .u64 10000000000), .lit (.int .u64 100000000000), .lit (.int .u64 1000000000000), .lit (.int .u64 10000000000000), .lit (.int .u64 100000000000000), .lit (.int .u64 1000000000000000), .lit (.int .u64 10000000000000000), .lit (.int .u64 100000000000000000), .lit (.int .u64 1000000000000000000), .lit (.int .u64 10000000000000000000)]
def laid_strconv_ErrRange {H : Type} : DataW H := .iface "*errors.errorString" (.ptr (.agg [.lit (.string [118, 97, 108, 117, 101, 32, 111, 117, 116, 32, 111, 102, 32, 114, 97, 110, 103, 101])]))
def laid_strconv_ErrSyntax {H : Type} : DataW H := .iface "*errors.errorString" (.ptr (.agg [.lit (.string [105, 110, 118, 97, 108, 105, 100, 32, 115, 121, 110, 116, 97, 120])]))

/-- 'reredoslaw04.ValWidth': WHATEVER THE INPUT: true; the input reads as it did. -/
def valWidthSpec : ChangeSpec := { name := "valWidth", fn := fun _ => fun
  | [d] => { results := [.lit (.bool true)], args := [d] }
  | _ => none }
def valWidthRow : OpenClaim := { program := "ythcijldahbalcaadoor", sum := "9d22f5e41ae28f94c9e4697daedf850bcfdb3c11c64d08552d26ecd94c4ae6e2", func := "reredos/reredoslaw04.ValWidth", spec := "valWidth", unfollowed := true, recurses := true, named := ["strconv.ErrSyntax", "strconv.ErrRange", "internal/strconv.uint64pow10", "math/bits.deBruijn32tab", "math/bits.deBruijn64tab"], apart := false, laid := [("math/bits.deBruijn32tab", laid_math_bits_deBruijn32tab), ("math/bits.deBruijn64tab", laid_math_bits_deBruijn64tab), ("internal/strconv.uint64pow10", laid_internal_strconv_uint64pow10), ("strconv.ErrRange", laid_strconv_ErrRange), ("strconv.ErrSyntax", laid_strconv_ErrSyntax)] }
def ValWidthSaid : Prop := valWidthRow.holds Tryd.pinned (OpenSpec.ofChange valWidthSpec)

/-- ITS FALSE NEIGHBOUR: 'it returns false'. Refute it at one input. -/
def valWidthWrong : ChangeSpec := { name := "valWidth", fn := fun _ => fun
  | [d] => { results := [.lit (.bool false)], args := [d] }
  | _ => none }
def ValWidthWrongFalsely : Prop := valWidthRow.holds Tryd.pinned (OpenSpec.ofChange valWidthWrong)

/-- 'reredoslaw04.ValSame': WHATEVER THE INPUT: true; the input reads as it did. -/
def valSameSpec : ChangeSpec := { name := "valSame", fn := fun _ => fun
  | [d1, d2, d3] => { results := [.lit (.bool true)], args := [d1, d2, d3] }
  | _ => none }
def valSameRow : OpenClaim := { program := "ythcijldahbalcaadoor", sum := "9d22f5e41ae28f94c9e4697daedf850bcfdb3c11c64d08552d26ecd94c4ae6e2", func := "reredos/reredoslaw04.ValSame", spec := "valSame", unfollowed := true, recurses := true, named := ["strconv.ErrSyntax", "strconv.ErrRange", "internal/strconv.uint64pow10", "math/bits.deBruijn32tab", "math/bits.deBruijn64tab"], apart := false, laid := [("math/bits.deBruijn32tab", laid_math_bits_deBruijn32tab), ("math/bits.deBruijn64tab", laid_math_bits_deBruijn64tab), ("internal/strconv.uint64pow10", laid_internal_strconv_uint64pow10), ("strconv.ErrRange", laid_strconv_ErrRange), ("strconv.ErrSyntax", laid_strconv_ErrSyntax)] }
def ValSameSaid : Prop := valSameRow.holds Tryd.pinned (OpenSpec.ofChange valSameSpec)

/-- ITS FALSE NEIGHBOUR: 'it returns false'. Refute it at one input. -/
def valSameWrong : ChangeSpec := { name := "valSame", fn := fun _ => fun
  | [d1, d2, d3] => { results := [.lit (.bool false)], args := [d1, d2, d3] }
  | _ => none }
def ValSameWrongFalsely : Prop := valSameRow.holds Tryd.pinned (OpenSpec.ofChange valSameWrong)

/-- 'reredoslaw04.ValBack': WHATEVER THE INPUT: true; the input reads as it did. -/
def valBackSpec : ChangeSpec := { name := "valBack", fn := fun _ => fun
  | [d] => { results := [.lit (.bool true)], args := [d] }
  | _ => none }
def valBackRow : OpenClaim := { program := "ythcijldahbalcaadoor", sum := "9d22f5e41ae28f94c9e4697daedf850bcfdb3c11c64d08552d26ecd94c4ae6e2", func := "reredos/reredoslaw04.ValBack", spec := "valBack", unfollowed := true, recurses := true, named := ["strconv.ErrSyntax", "strconv.ErrRange", "internal/strconv.uint64pow10", "math/bits.deBruijn32tab", "math/bits.deBruijn64tab"], apart := false, laid := [("math/bits.deBruijn32tab", laid_math_bits_deBruijn32tab), ("math/bits.deBruijn64tab", laid_math_bits_deBruijn64tab), ("internal/strconv.uint64pow10", laid_internal_strconv_uint64pow10), ("strconv.ErrRange", laid_strconv_ErrRange), ("strconv.ErrSyntax", laid_strconv_ErrSyntax)] }
def ValBackSaid : Prop := valBackRow.holds Tryd.pinned (OpenSpec.ofChange valBackSpec)

/-- ITS FALSE NEIGHBOUR: 'it returns false'. Refute it at one input. -/
def valBackWrong : ChangeSpec := { name := "valBack", fn := fun _ => fun
  | [d] => { results := [.lit (.bool false)], args := [d] }
  | _ => none }
def ValBackWrongFalsely : Prop := valBackRow.holds Tryd.pinned (OpenSpec.ofChange valBackWrong)

/-- 'reredoslaw05.TypedPacks': WHATEVER THE INPUT: true; the input reads as it did. -/
def typedPacksSpec : ChangeSpec := { name := "typedPacks", fn := fun _ => fun
  | [d] => { results := [.lit (.bool true)], args := [d] }
  | _ => none }
def typedPacksRow : OpenClaim := { program := "ythcijldahbalcaadoor", sum := "9d22f5e41ae28f94c9e4697daedf850bcfdb3c11c64d08552d26ecd94c4ae6e2", func := "reredos/reredoslaw05.TypedPacks", spec := "typedPacks", unfollowed := true, recurses := true, named := ["strconv.ErrSyntax", "strconv.ErrRange", "internal/strconv.uint64pow10", "math/bits.deBruijn32tab", "math/bits.deBruijn64tab"], apart := false, laid := [("math/bits.deBruijn32tab", laid_math_bits_deBruijn32tab), ("math/bits.deBruijn64tab", laid_math_bits_deBruijn64tab), ("internal/strconv.uint64pow10", laid_internal_strconv_uint64pow10), ("strconv.ErrRange", laid_strconv_ErrRange), ("strconv.ErrSyntax", laid_strconv_ErrSyntax)] }
def TypedPacksSaid : Prop := typedPacksRow.holds Tryd.pinned (OpenSpec.ofChange typedPacksSpec)

/-- ITS FALSE NEIGHBOUR: 'it returns false'. Refute it at one input. -/
def typedPacksWrong : ChangeSpec := { name := "typedPacks", fn := fun _ => fun
  | [d] => { results := [.lit (.bool false)], args := [d] }
  | _ => none }
def TypedPacksWrongFalsely : Prop := typedPacksRow.holds Tryd.pinned (OpenSpec.ofChange typedPacksWrong)

/-- 'reredoslaw05.TypedElements': WHATEVER THE INPUT: true; the input reads as it did. -/
def typedElementsSpec : ChangeSpec := { name := "typedElements", fn := fun _ => fun
  | [d1, d2] => { results := [.lit (.bool true)], args := [d1, d2] }
  | _ => none }
def typedElementsRow : OpenClaim := { program := "ythcijldahbalcaadoor", sum := "9d22f5e41ae28f94c9e4697daedf850bcfdb3c11c64d08552d26ecd94c4ae6e2", func := "reredos/reredoslaw05.TypedElements", spec := "typedElements", unfollowed := true, recurses := true, named := ["strconv.ErrSyntax", "strconv.ErrRange", "internal/strconv.uint64pow10", "math/bits.deBruijn32tab", "math/bits.deBruijn64tab"], apart := false, laid := [("math/bits.deBruijn32tab", laid_math_bits_deBruijn32tab), ("math/bits.deBruijn64tab", laid_math_bits_deBruijn64tab), ("internal/strconv.uint64pow10", laid_internal_strconv_uint64pow10), ("strconv.ErrRange", laid_strconv_ErrRange), ("strconv.ErrSyntax", laid_strconv_ErrSyntax)] }
def TypedElementsSaid : Prop := typedElementsRow.holds Tryd.pinned (OpenSpec.ofChange typedElementsSpec)

/-- ITS FALSE NEIGHBOUR: 'it returns false'. Refute it at one input. -/
def typedElementsWrong : ChangeSpec := { name := "typedElements", fn := fun _ => fun
  | [d1, d2] => { results := [.lit (.bool false)], args := [d1, d2] }
  | _ => none }
def TypedElementsWrongFalsely : Prop := typedElementsRow.holds Tryd.pinned (OpenSpec.ofChange typedElementsWrong)

/-- 'reredoslaw04.ValInts': WHATEVER THE INPUT: true; the input reads as it did. -/
def valIntsSpec : ChangeSpec := { name := "valInts", fn := fun _ => fun
  | [d] => { results := [.lit (.bool true)], args := [d] }
  | _ => none }
def valIntsRow : OpenClaim := { program := "ythcijldahbalcaadoor", sum := "9d22f5e41ae28f94c9e4697daedf850bcfdb3c11c64d08552d26ecd94c4ae6e2", func := "reredos/reredoslaw04.ValInts", spec := "valInts", unfollowed := true, recurses := true, named := ["strconv.ErrSyntax", "strconv.ErrRange", "internal/strconv.uint64pow10", "math/bits.deBruijn32tab", "math/bits.deBruijn64tab"], apart := false, laid := [("math/bits.deBruijn32tab", laid_math_bits_deBruijn32tab), ("math/bits.deBruijn64tab", laid_math_bits_deBruijn64tab), ("internal/strconv.uint64pow10", laid_internal_strconv_uint64pow10), ("strconv.ErrRange", laid_strconv_ErrRange), ("strconv.ErrSyntax", laid_strconv_ErrSyntax)] }
def ValIntsSaid : Prop := valIntsRow.holds Tryd.pinned (OpenSpec.ofChange valIntsSpec)

/-- ITS FALSE NEIGHBOUR: 'it returns false'. Refute it at one input. -/
def valIntsWrong : ChangeSpec := { name := "valInts", fn := fun _ => fun
  | [d] => { results := [.lit (.bool false)], args := [d] }
  | _ => none }
def ValIntsWrongFalsely : Prop := valIntsRow.holds Tryd.pinned (OpenSpec.ofChange valIntsWrong)

/-- 'reredoslaw05.TypedNarrow': WHATEVER THE INPUT: true; the input reads as it did. -/
def typedNarrowSpec : ChangeSpec := { name := "typedNarrow", fn := fun _ => fun
  | [d1, d2, d3] => { results := [.lit (.bool true)], args := [d1, d2, d3] }
  | _ => none }
def typedNarrowRow : OpenClaim := { program := "ythcijldahbalcaadoor", sum := "9d22f5e41ae28f94c9e4697daedf850bcfdb3c11c64d08552d26ecd94c4ae6e2", func := "reredos/reredoslaw05.TypedNarrow", spec := "typedNarrow", unfollowed := true, recurses := true, named := ["strconv.ErrSyntax", "strconv.ErrRange", "internal/strconv.uint64pow10", "math/bits.deBruijn32tab", "math/bits.deBruijn64tab"], apart := false, laid := [("math/bits.deBruijn32tab", laid_math_bits_deBruijn32tab), ("math/bits.deBruijn64tab", laid_math_bits_deBruijn64tab), ("internal/strconv.uint64pow10", laid_internal_strconv_uint64pow10), ("strconv.ErrRange", laid_strconv_ErrRange), ("strconv.ErrSyntax", laid_strconv_ErrSyntax)] }
def TypedNarrowSaid : Prop := typedNarrowRow.holds Tryd.pinned (OpenSpec.ofChange typedNarrowSpec)

/-- ITS FALSE NEIGHBOUR: 'it returns false'. Refute it at one input. -/
def typedNarrowWrong : ChangeSpec := { name := "typedNarrow", fn := fun _ => fun
  | [d1, d2, d3] => { results := [.lit (.bool false)], args := [d1, d2, d3] }
  | _ => none }
def TypedNarrowWrongFalsely : Prop := typedNarrowRow.holds Tryd.pinned (OpenSpec.ofChange typedNarrowWrong)

/-- 'reredoslaw05.TypedBytes': WHATEVER THE INPUT: true; the input reads as it did. -/
def typedBytesSpec : ChangeSpec := { name := "typedBytes", fn := fun _ => fun
  | [d1, d2] => { results := [.lit (.bool true)], args := [d1, d2] }
  | _ => none }
def typedBytesRow : OpenClaim := { program := "ythcijldahbalcaadoor", sum := "9d22f5e41ae28f94c9e4697daedf850bcfdb3c11c64d08552d26ecd94c4ae6e2", func := "reredos/reredoslaw05.TypedBytes", spec := "typedBytes", unfollowed := true, recurses := true, named := ["strconv.ErrSyntax", "strconv.ErrRange", "internal/strconv.uint64pow10", "math/bits.deBruijn32tab", "math/bits.deBruijn64tab"], apart := false, laid := [("math/bits.deBruijn32tab", laid_math_bits_deBruijn32tab), ("math/bits.deBruijn64tab", laid_math_bits_deBruijn64tab), ("internal/strconv.uint64pow10", laid_internal_strconv_uint64pow10), ("strconv.ErrRange", laid_strconv_ErrRange), ("strconv.ErrSyntax", laid_strconv_ErrSyntax)] }
def TypedBytesSaid : Prop := typedBytesRow.holds Tryd.pinned (OpenSpec.ofChange typedBytesSpec)

/-- ITS FALSE NEIGHBOUR: 'it returns false'. Refute it at one input. -/
def typedBytesWrong : ChangeSpec := { name := "typedBytes", fn := fun _ => fun
  | [d1, d2] => { results := [.lit (.bool false)], args := [d1, d2] }
  | _ => none }
def TypedBytesWrongFalsely : Prop := typedBytesRow.holds Tryd.pinned (OpenSpec.ofChange typedBytesWrong)

/-- 'reredoslaw05.TypedBack': WHATEVER THE INPUT: true; the input reads as it did. -/
def typedBackSpec : ChangeSpec := { name := "typedBack", fn := fun _ => fun
  | [d1, d2] => { results := [.lit (.bool true)], args := [d1, d2] }
  | _ => none }
def typedBackRow : OpenClaim := { program := "ythcijldahbalcaadoor", sum := "9d22f5e41ae28f94c9e4697daedf850bcfdb3c11c64d08552d26ecd94c4ae6e2", func := "reredos/reredoslaw05.TypedBack", spec := "typedBack", unfollowed := true, recurses := true, named := ["strconv.ErrSyntax", "strconv.ErrRange", "internal/strconv.uint64pow10", "math/bits.deBruijn32tab", "math/bits.deBruijn64tab"], apart := false, laid := [("math/bits.deBruijn32tab", laid_math_bits_deBruijn32tab), ("math/bits.deBruijn64tab", laid_math_bits_deBruijn64tab), ("internal/strconv.uint64pow10", laid_internal_strconv_uint64pow10), ("strconv.ErrRange", laid_strconv_ErrRange), ("strconv.ErrSyntax", laid_strconv_ErrSyntax)] }
def TypedBackSaid : Prop := typedBackRow.holds Tryd.pinned (OpenSpec.ofChange typedBackSpec)

/-- ITS FALSE NEIGHBOUR: 'it returns false'. Refute it at one input. -/
def typedBackWrong : ChangeSpec := { name := "typedBack", fn := fun _ => fun
  | [d1, d2] => { results := [.lit (.bool false)], args := [d1, d2] }
  | _ => none }
def TypedBackWrongFalsely : Prop := typedBackRow.holds Tryd.pinned (OpenSpec.ofChange typedBackWrong)

/-- 'reredoslaw14.MouldIota': WHATEVER THE INPUT: true; the input reads as it did. -/
def mouldIotaSpec : ChangeSpec := { name := "mouldIota", fn := fun _ => fun
  | [d] => { results := [.lit (.bool true)], args := [d] }
  | _ => none }
def mouldIotaRow : OpenClaim := { program := "ythcijldahbalcaadoor", sum := "9d22f5e41ae28f94c9e4697daedf850bcfdb3c11c64d08552d26ecd94c4ae6e2", func := "reredos/reredoslaw14.MouldIota", spec := "mouldIota", unfollowed := true, recurses := true, named := ["strconv.ErrSyntax", "strconv.ErrRange", "internal/strconv.uint64pow10", "math/bits.deBruijn32tab", "math/bits.deBruijn64tab"], apart := false, laid := [("math/bits.deBruijn32tab", laid_math_bits_deBruijn32tab), ("math/bits.deBruijn64tab", laid_math_bits_deBruijn64tab), ("internal/strconv.uint64pow10", laid_internal_strconv_uint64pow10), ("strconv.ErrRange", laid_strconv_ErrRange), ("strconv.ErrSyntax", laid_strconv_ErrSyntax)] }
def MouldIotaSaid : Prop := mouldIotaRow.holds Tryd.pinned (OpenSpec.ofChange mouldIotaSpec)

/-- ITS FALSE NEIGHBOUR: 'it returns false'. Refute it at one input. -/
def mouldIotaWrong : ChangeSpec := { name := "mouldIota", fn := fun _ => fun
  | [d] => { results := [.lit (.bool false)], args := [d] }
  | _ => none }
def MouldIotaWrongFalsely : Prop := mouldIotaRow.holds Tryd.pinned (OpenSpec.ofChange mouldIotaWrong)

/-- 'reredoslaw14.MouldTwice': WHATEVER THE INPUT: true; the input reads as it did. -/
def mouldTwiceSpec : ChangeSpec := { name := "mouldTwice", fn := fun _ => fun
  | [d] => { results := [.lit (.bool true)], args := [d] }
  | _ => none }
def mouldTwiceRow : OpenClaim := { program := "ythcijldahbalcaadoor", sum := "9d22f5e41ae28f94c9e4697daedf850bcfdb3c11c64d08552d26ecd94c4ae6e2", func := "reredos/reredoslaw14.MouldTwice", spec := "mouldTwice", unfollowed := true, recurses := true, named := ["strconv.ErrSyntax", "strconv.ErrRange", "internal/strconv.uint64pow10", "math/bits.deBruijn32tab", "math/bits.deBruijn64tab"], apart := false, laid := [("math/bits.deBruijn32tab", laid_math_bits_deBruijn32tab), ("math/bits.deBruijn64tab", laid_math_bits_deBruijn64tab), ("internal/strconv.uint64pow10", laid_internal_strconv_uint64pow10), ("strconv.ErrRange", laid_strconv_ErrRange), ("strconv.ErrSyntax", laid_strconv_ErrSyntax)] }
def MouldTwiceSaid : Prop := mouldTwiceRow.holds Tryd.pinned (OpenSpec.ofChange mouldTwiceSpec)

/-- ITS FALSE NEIGHBOUR: 'it returns false'. Refute it at one input. -/
def mouldTwiceWrong : ChangeSpec := { name := "mouldTwice", fn := fun _ => fun
  | [d] => { results := [.lit (.bool false)], args := [d] }
  | _ => none }
def MouldTwiceWrongFalsely : Prop := mouldTwiceRow.holds Tryd.pinned (OpenSpec.ofChange mouldTwiceWrong)

/-- 'reredoslaw14.MouldJoins': WHATEVER THE INPUT: true; the input reads as it did. -/
def mouldJoinsSpec : ChangeSpec := { name := "mouldJoins", fn := fun _ => fun
  | [d1, d2, d3] => { results := [.lit (.bool true)], args := [d1, d2, d3] }
  | _ => none }
def mouldJoinsRow : OpenClaim := { program := "ythcijldahbalcaadoor", sum := "9d22f5e41ae28f94c9e4697daedf850bcfdb3c11c64d08552d26ecd94c4ae6e2", func := "reredos/reredoslaw14.MouldJoins", spec := "mouldJoins", unfollowed := true, recurses := true, named := ["strconv.ErrSyntax", "strconv.ErrRange", "internal/strconv.uint64pow10", "math/bits.deBruijn32tab", "math/bits.deBruijn64tab"], apart := false, laid := [("math/bits.deBruijn32tab", laid_math_bits_deBruijn32tab), ("math/bits.deBruijn64tab", laid_math_bits_deBruijn64tab), ("internal/strconv.uint64pow10", laid_internal_strconv_uint64pow10), ("strconv.ErrRange", laid_strconv_ErrRange), ("strconv.ErrSyntax", laid_strconv_ErrSyntax)] }
def MouldJoinsSaid : Prop := mouldJoinsRow.holds Tryd.pinned (OpenSpec.ofChange mouldJoinsSpec)

/-- ITS FALSE NEIGHBOUR: 'it returns false'. Refute it at one input. -/
def mouldJoinsWrong : ChangeSpec := { name := "mouldJoins", fn := fun _ => fun
  | [d1, d2, d3] => { results := [.lit (.bool false)], args := [d1, d2, d3] }
  | _ => none }
def MouldJoinsWrongFalsely : Prop := mouldJoinsRow.holds Tryd.pinned (OpenSpec.ofChange mouldJoinsWrong)

/-- 'reredoslaw14.MouldCuts': WHATEVER THE INPUT: true; the input reads as it did. -/
def mouldCutsSpec : ChangeSpec := { name := "mouldCuts", fn := fun _ => fun
  | [d1, d2] => { results := [.lit (.bool true)], args := [d1, d2] }
  | _ => none }
def mouldCutsRow : OpenClaim := { program := "ythcijldahbalcaadoor", sum := "9d22f5e41ae28f94c9e4697daedf850bcfdb3c11c64d08552d26ecd94c4ae6e2", func := "reredos/reredoslaw14.MouldCuts", spec := "mouldCuts", unfollowed := true, recurses := true, named := ["strconv.ErrSyntax", "strconv.ErrRange", "internal/strconv.uint64pow10", "math/bits.deBruijn32tab", "math/bits.deBruijn64tab"], apart := false, laid := [("math/bits.deBruijn32tab", laid_math_bits_deBruijn32tab), ("math/bits.deBruijn64tab", laid_math_bits_deBruijn64tab), ("internal/strconv.uint64pow10", laid_internal_strconv_uint64pow10), ("strconv.ErrRange", laid_strconv_ErrRange), ("strconv.ErrSyntax", laid_strconv_ErrSyntax)] }
def MouldCutsSaid : Prop := mouldCutsRow.holds Tryd.pinned (OpenSpec.ofChange mouldCutsSpec)

/-- ITS FALSE NEIGHBOUR: 'it returns false'. Refute it at one input. -/
def mouldCutsWrong : ChangeSpec := { name := "mouldCuts", fn := fun _ => fun
  | [d1, d2] => { results := [.lit (.bool false)], args := [d1, d2] }
  | _ => none }
def MouldCutsWrongFalsely : Prop := mouldCutsRow.holds Tryd.pinned (OpenSpec.ofChange mouldCutsWrong)

/- THE SECOND FORM. 'bulk': how many values and letters a reading holds, each counted each time it is reached (what is shared counts as often as it is met; a slice's spare places count too). A statement '..UptoSaid' is the law's where the arguments, and the package variables that the reading takes, are together of bulk at most 1048576: NARROWER than '..Said'. Prove '..Said' where nothing that the law and all that it calls make is longer than what came in: it says more and counts as full. Else prove '..UptoSaid'. A law counts once. -/
mutual
def uptoBulk {H : Type} : DataW H → Nat
  | .lit (.string bytes) => bytes.length + 1
  | .lit _ => 1
  | .nil => 1
  | .ptr d => uptoBulk d + 1
  | .slice elems spare => uptoBulkAll elems + uptoBulkAll spare + 1
  | .agg parts => uptoBulkAll parts + 1
  | .iface _ d => uptoBulk d + 1
  | .map entries => uptoBulkEntries entries + 1
  | .held _ => 1
def uptoBulkAll {H : Type} : List (DataW H) → Nat
  | [] => 0
  | d :: r => uptoBulk d + uptoBulkAll r
def uptoBulkEntries {H : Type} : List (Lit × DataW H) → Nat
  | [] => 0
  | x :: r => uptoBulkEntry x + uptoBulkEntries r
def uptoBulkEntry {H : Type} : Lit × DataW H → Nat
  | (.string bytes, d) => bytes.length + uptoBulk d + 1
  | (_, d) => uptoBulk d + 1
 end
def uptoSmall : (H : Type) → List (DataW H) → Bool := fun _ ds => decide (uptoBulkAll ds ≤ 1048576)
def OpenSpec.upto (s : _root_.Go.ChangeSpec) : _root_.Go.OpenSpec := { _root_.Go.OpenSpec.ofChange s with cond := some uptoSmall }

/-- 'reredoslaw04.ValWidth', WHERE WHAT IT READS IS OF BULK AT MOST 1048576: true; the input reads as it did. -/
def valWidthUptoRow : OpenClaim := { program := "ythcijldahbalcaadoor", sum := "9d22f5e41ae28f94c9e4697daedf850bcfdb3c11c64d08552d26ecd94c4ae6e2", func := "reredos/reredoslaw04.ValWidth", spec := "valWidth", unfollowed := true, recurses := true, named := ["strconv.ErrSyntax", "strconv.ErrRange", "internal/strconv.uint64pow10", "math/bits.deBruijn32tab", "math/bits.deBruijn64tab"], apart := false, laid := [("math/bits.deBruijn32tab", laid_math_bits_deBruijn32tab), ("math/bits.deBruijn64tab", laid_math_bits_deBruijn64tab), ("internal/strconv.uint64pow10", laid_internal_strconv_uint64pow10), ("strconv.ErrRange", laid_strconv_ErrRange), ("strconv.ErrSyntax", laid_strconv_ErrSyntax)], narrowed := true }
def ValWidthUptoSaid : Prop := valWidthUptoRow.holds Tryd.pinned (OpenSpec.upto valWidthSpec)

/-- 'reredoslaw04.ValSame', WHERE WHAT IT READS IS OF BULK AT MOST 1048576: true; the input reads as it did. -/
def valSameUptoRow : OpenClaim := { program := "ythcijldahbalcaadoor", sum := "9d22f5e41ae28f94c9e4697daedf850bcfdb3c11c64d08552d26ecd94c4ae6e2", func := "reredos/reredoslaw04.ValSame", spec := "valSame", unfollowed := true, recurses := true, named := ["strconv.ErrSyntax", "strconv.ErrRange", "internal/strconv.uint64pow10", "math/bits.deBruijn32tab", "math/bits.deBruijn64tab"], apart := false, laid := [("math/bits.deBruijn32tab", laid_math_bits_deBruijn32tab), ("math/bits.deBruijn64tab", laid_math_bits_deBruijn64tab), ("internal/strconv.uint64pow10", laid_internal_strconv_uint64pow10), ("strconv.ErrRange", laid_strconv_ErrRange), ("strconv.ErrSyntax", laid_strconv_ErrSyntax)], narrowed := true }
def ValSameUptoSaid : Prop := valSameUptoRow.holds Tryd.pinned (OpenSpec.upto valSameSpec)

/-- 'reredoslaw04.ValBack', WHERE WHAT IT READS IS OF BULK AT MOST 1048576: true; the input reads as it did. -/
def valBackUptoRow : OpenClaim := { program := "ythcijldahbalcaadoor", sum := "9d22f5e41ae28f94c9e4697daedf850bcfdb3c11c64d08552d26ecd94c4ae6e2", func := "reredos/reredoslaw04.ValBack", spec := "valBack", unfollowed := true, recurses := true, named := ["strconv.ErrSyntax", "strconv.ErrRange", "internal/strconv.uint64pow10", "math/bits.deBruijn32tab", "math/bits.deBruijn64tab"], apart := false, laid := [("math/bits.deBruijn32tab", laid_math_bits_deBruijn32tab), ("math/bits.deBruijn64tab", laid_math_bits_deBruijn64tab), ("internal/strconv.uint64pow10", laid_internal_strconv_uint64pow10), ("strconv.ErrRange", laid_strconv_ErrRange), ("strconv.ErrSyntax", laid_strconv_ErrSyntax)], narrowed := true }
def ValBackUptoSaid : Prop := valBackUptoRow.holds Tryd.pinned (OpenSpec.upto valBackSpec)

/-- 'reredoslaw05.TypedPacks', WHERE WHAT IT READS IS OF BULK AT MOST 1048576: true; the input reads as it did. -/
def typedPacksUptoRow : OpenClaim := { program := "ythcijldahbalcaadoor", sum := "9d22f5e41ae28f94c9e4697daedf850bcfdb3c11c64d08552d26ecd94c4ae6e2", func := "reredos/reredoslaw05.TypedPacks", spec := "typedPacks", unfollowed := true, recurses := true, named := ["strconv.ErrSyntax", "strconv.ErrRange", "internal/strconv.uint64pow10", "math/bits.deBruijn32tab", "math/bits.deBruijn64tab"], apart := false, laid := [("math/bits.deBruijn32tab", laid_math_bits_deBruijn32tab), ("math/bits.deBruijn64tab", laid_math_bits_deBruijn64tab), ("internal/strconv.uint64pow10", laid_internal_strconv_uint64pow10), ("strconv.ErrRange", laid_strconv_ErrRange), ("strconv.ErrSyntax", laid_strconv_ErrSyntax)], narrowed := true }
def TypedPacksUptoSaid : Prop := typedPacksUptoRow.holds Tryd.pinned (OpenSpec.upto typedPacksSpec)

/-- 'reredoslaw05.TypedElements', WHERE WHAT IT READS IS OF BULK AT MOST 1048576: true; the input reads as it did. -/
def typedElementsUptoRow : OpenClaim := { program := "ythcijldahbalcaadoor", sum := "9d22f5e41ae28f94c9e4697daedf850bcfdb3c11c64d08552d26ecd94c4ae6e2", func := "reredos/reredoslaw05.TypedElements", spec := "typedElements", unfollowed := true, recurses := true, named := ["strconv.ErrSyntax", "strconv.ErrRange", "internal/strconv.uint64pow10", "math/bits.deBruijn32tab", "math/bits.deBruijn64tab"], apart := false, laid := [("math/bits.deBruijn32tab", laid_math_bits_deBruijn32tab), ("math/bits.deBruijn64tab", laid_math_bits_deBruijn64tab), ("internal/strconv.uint64pow10", laid_internal_strconv_uint64pow10), ("strconv.ErrRange", laid_strconv_ErrRange), ("strconv.ErrSyntax", laid_strconv_ErrSyntax)], narrowed := true }
def TypedElementsUptoSaid : Prop := typedElementsUptoRow.holds Tryd.pinned (OpenSpec.upto typedElementsSpec)

/-- 'reredoslaw04.ValInts', WHERE WHAT IT READS IS OF BULK AT MOST 1048576: true; the input reads as it did. -/
def valIntsUptoRow : OpenClaim := { program := "ythcijldahbalcaadoor", sum := "9d22f5e41ae28f94c9e4697daedf850bcfdb3c11c64d08552d26ecd94c4ae6e2", func := "reredos/reredoslaw04.ValInts", spec := "valInts", unfollowed := true, recurses := true, named := ["strconv.ErrSyntax", "strconv.ErrRange", "internal/strconv.uint64pow10", "math/bits.deBruijn32tab", "math/bits.deBruijn64tab"], apart := false, laid := [("math/bits.deBruijn32tab", laid_math_bits_deBruijn32tab), ("math/bits.deBruijn64tab", laid_math_bits_deBruijn64tab), ("internal/strconv.uint64pow10", laid_internal_strconv_uint64pow10), ("strconv.ErrRange", laid_strconv_ErrRange), ("strconv.ErrSyntax", laid_strconv_ErrSyntax)], narrowed := true }
def ValIntsUptoSaid : Prop := valIntsUptoRow.holds Tryd.pinned (OpenSpec.upto valIntsSpec)

/-- 'reredoslaw05.TypedNarrow', WHERE WHAT IT READS IS OF BULK AT MOST 1048576: true; the input reads as it did. -/
def typedNarrowUptoRow : OpenClaim := { program := "ythcijldahbalcaadoor", sum := "9d22f5e41ae28f94c9e4697daedf850bcfdb3c11c64d08552d26ecd94c4ae6e2", func := "reredos/reredoslaw05.TypedNarrow", spec := "typedNarrow", unfollowed := true, recurses := true, named := ["strconv.ErrSyntax", "strconv.ErrRange", "internal/strconv.uint64pow10", "math/bits.deBruijn32tab", "math/bits.deBruijn64tab"], apart := false, laid := [("math/bits.deBruijn32tab", laid_math_bits_deBruijn32tab), ("math/bits.deBruijn64tab", laid_math_bits_deBruijn64tab), ("internal/strconv.uint64pow10", laid_internal_strconv_uint64pow10), ("strconv.ErrRange", laid_strconv_ErrRange), ("strconv.ErrSyntax", laid_strconv_ErrSyntax)], narrowed := true }
def TypedNarrowUptoSaid : Prop := typedNarrowUptoRow.holds Tryd.pinned (OpenSpec.upto typedNarrowSpec)

/-- 'reredoslaw05.TypedBytes', WHERE WHAT IT READS IS OF BULK AT MOST 1048576: true; the input reads as it did. -/
def typedBytesUptoRow : OpenClaim := { program := "ythcijldahbalcaadoor", sum := "9d22f5e41ae28f94c9e4697daedf850bcfdb3c11c64d08552d26ecd94c4ae6e2", func := "reredos/reredoslaw05.TypedBytes", spec := "typedBytes", unfollowed := true, recurses := true, named := ["strconv.ErrSyntax", "strconv.ErrRange", "internal/strconv.uint64pow10", "math/bits.deBruijn32tab", "math/bits.deBruijn64tab"], apart := false, laid := [("math/bits.deBruijn32tab", laid_math_bits_deBruijn32tab), ("math/bits.deBruijn64tab", laid_math_bits_deBruijn64tab), ("internal/strconv.uint64pow10", laid_internal_strconv_uint64pow10), ("strconv.ErrRange", laid_strconv_ErrRange), ("strconv.ErrSyntax", laid_strconv_ErrSyntax)], narrowed := true }
def TypedBytesUptoSaid : Prop := typedBytesUptoRow.holds Tryd.pinned (OpenSpec.upto typedBytesSpec)

/-- 'reredoslaw05.TypedBack', WHERE WHAT IT READS IS OF BULK AT MOST 1048576: true; the input reads as it did. -/
def typedBackUptoRow : OpenClaim := { program := "ythcijldahbalcaadoor", sum := "9d22f5e41ae28f94c9e4697daedf850bcfdb3c11c64d08552d26ecd94c4ae6e2", func := "reredos/reredoslaw05.TypedBack", spec := "typedBack", unfollowed := true, recurses := true, named := ["strconv.ErrSyntax", "strconv.ErrRange", "internal/strconv.uint64pow10", "math/bits.deBruijn32tab", "math/bits.deBruijn64tab"], apart := false, laid := [("math/bits.deBruijn32tab", laid_math_bits_deBruijn32tab), ("math/bits.deBruijn64tab", laid_math_bits_deBruijn64tab), ("internal/strconv.uint64pow10", laid_internal_strconv_uint64pow10), ("strconv.ErrRange", laid_strconv_ErrRange), ("strconv.ErrSyntax", laid_strconv_ErrSyntax)], narrowed := true }
def TypedBackUptoSaid : Prop := typedBackUptoRow.holds Tryd.pinned (OpenSpec.upto typedBackSpec)

/-- 'reredoslaw14.MouldIota', WHERE WHAT IT READS IS OF BULK AT MOST 1048576: true; the input reads as it did. -/
def mouldIotaUptoRow : OpenClaim := { program := "ythcijldahbalcaadoor", sum := "9d22f5e41ae28f94c9e4697daedf850bcfdb3c11c64d08552d26ecd94c4ae6e2", func := "reredos/reredoslaw14.MouldIota", spec := "mouldIota", unfollowed := true, recurses := true, named := ["strconv.ErrSyntax", "strconv.ErrRange", "internal/strconv.uint64pow10", "math/bits.deBruijn32tab", "math/bits.deBruijn64tab"], apart := false, laid := [("math/bits.deBruijn32tab", laid_math_bits_deBruijn32tab), ("math/bits.deBruijn64tab", laid_math_bits_deBruijn64tab), ("internal/strconv.uint64pow10", laid_internal_strconv_uint64pow10), ("strconv.ErrRange", laid_strconv_ErrRange), ("strconv.ErrSyntax", laid_strconv_ErrSyntax)], narrowed := true }
def MouldIotaUptoSaid : Prop := mouldIotaUptoRow.holds Tryd.pinned (OpenSpec.upto mouldIotaSpec)

/-- 'reredoslaw14.MouldTwice', WHERE WHAT IT READS IS OF BULK AT MOST 1048576: true; the input reads as it did. -/
def mouldTwiceUptoRow : OpenClaim := { program := "ythcijldahbalcaadoor", sum := "9d22f5e41ae28f94c9e4697daedf850bcfdb3c11c64d08552d26ecd94c4ae6e2", func := "reredos/reredoslaw14.MouldTwice", spec := "mouldTwice", unfollowed := true, recurses := true, named := ["strconv.ErrSyntax", "strconv.ErrRange", "internal/strconv.uint64pow10", "math/bits.deBruijn32tab", "math/bits.deBruijn64tab"], apart := false, laid := [("math/bits.deBruijn32tab", laid_math_bits_deBruijn32tab), ("math/bits.deBruijn64tab", laid_math_bits_deBruijn64tab), ("internal/strconv.uint64pow10", laid_internal_strconv_uint64pow10), ("strconv.ErrRange", laid_strconv_ErrRange), ("strconv.ErrSyntax", laid_strconv_ErrSyntax)], narrowed := true }
def MouldTwiceUptoSaid : Prop := mouldTwiceUptoRow.holds Tryd.pinned (OpenSpec.upto mouldTwiceSpec)

/-- 'reredoslaw14.MouldJoins', WHERE WHAT IT READS IS OF BULK AT MOST 1048576: true; the input reads as it did. -/
def mouldJoinsUptoRow : OpenClaim := { program := "ythcijldahbalcaadoor", sum := "9d22f5e41ae28f94c9e4697daedf850bcfdb3c11c64d08552d26ecd94c4ae6e2", func := "reredos/reredoslaw14.MouldJoins", spec := "mouldJoins", unfollowed := true, recurses := true, named := ["strconv.ErrSyntax", "strconv.ErrRange", "internal/strconv.uint64pow10", "math/bits.deBruijn32tab", "math/bits.deBruijn64tab"], apart := false, laid := [("math/bits.deBruijn32tab", laid_math_bits_deBruijn32tab), ("math/bits.deBruijn64tab", laid_math_bits_deBruijn64tab), ("internal/strconv.uint64pow10", laid_internal_strconv_uint64pow10), ("strconv.ErrRange", laid_strconv_ErrRange), ("strconv.ErrSyntax", laid_strconv_ErrSyntax)], narrowed := true }
def MouldJoinsUptoSaid : Prop := mouldJoinsUptoRow.holds Tryd.pinned (OpenSpec.upto mouldJoinsSpec)

/-- 'reredoslaw14.MouldCuts', WHERE WHAT IT READS IS OF BULK AT MOST 1048576: true; the input reads as it did. -/
def mouldCutsUptoRow : OpenClaim := { program := "ythcijldahbalcaadoor", sum := "9d22f5e41ae28f94c9e4697daedf850bcfdb3c11c64d08552d26ecd94c4ae6e2", func := "reredos/reredoslaw14.MouldCuts", spec := "mouldCuts", unfollowed := true, recurses := true, named := ["strconv.ErrSyntax", "strconv.ErrRange", "internal/strconv.uint64pow10", "math/bits.deBruijn32tab", "math/bits.deBruijn64tab"], apart := false, laid := [("math/bits.deBruijn32tab", laid_math_bits_deBruijn32tab), ("math/bits.deBruijn64tab", laid_math_bits_deBruijn64tab), ("internal/strconv.uint64pow10", laid_internal_strconv_uint64pow10), ("strconv.ErrRange", laid_strconv_ErrRange), ("strconv.ErrSyntax", laid_strconv_ErrSyntax)], narrowed := true }
def MouldCutsUptoSaid : Prop := mouldCutsUptoRow.holds Tryd.pinned (OpenSpec.upto mouldCutsSpec)

end Rows
end Go.Proofs.YthcijldahbalcaaDoor
