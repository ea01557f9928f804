import Derived.Test.YtniphaoadhojlaaGreatDoorRows
import Derived.LaidByTextLater
import Derived.LaidOnce
import Derived.LaidMore
set_option linter.all false
namespace Go.Proofs.YtniphaoadhojlaaGreatDoor
open Go
/-! ## The listed variables: closed facts that need no run -/
def laidL : List (String × DataW Unit) := [("math/bits.deBruijn32tab", Rows.laid_math_bits_deBruijn32tab), ("math/bits.deBruijn64tab", Rows.laid_math_bits_deBruijn64tab), ("internal/strconv.uint64pow10", Rows.laid_internal_strconv_uint64pow10), ("concord/api.ErrShort", Rows.laid_concord_api_ErrShort), ("concord/api.ErrVarint", Rows.laid_concord_api_ErrVarint), ("concord/api.ErrLimit", Rows.laid_concord_api_ErrLimit), ("concord/api.ErrOrder", Rows.laid_concord_api_ErrOrder), ("concord/api.ErrTail", Rows.laid_concord_api_ErrTail), ("concord/api.ErrTag", Rows.laid_concord_api_ErrTag), ("concord/api.ErrSum", Rows.laid_concord_api_ErrSum), ("concord/api.ErrRange", Rows.laid_concord_api_ErrRange), ("concord/api.ErrSize", Rows.laid_concord_api_ErrSize), ("concord/api.ErrCorrupt", Rows.laid_concord_api_ErrCorrupt), ("concord/api.ErrSchema", Rows.laid_concord_api_ErrSchema), ("concord/api.ErrField", Rows.laid_concord_api_ErrField), ("concord/api.ErrValue", Rows.laid_concord_api_ErrValue), ("concord/api.ErrPattern", Rows.laid_concord_api_ErrPattern), ("concord/api.ErrStates", Rows.laid_concord_api_ErrStates), ("concord/api.ErrSyntax", Rows.laid_concord_api_ErrSyntax), ("concord/api.ErrDeep", Rows.laid_concord_api_ErrDeep), ("concord/api.ErrNode", Rows.laid_concord_api_ErrNode), ("concord/api.ErrTerms", Rows.laid_concord_api_ErrTerms), ("concord/api.ErrScore", Rows.laid_concord_api_ErrScore), ("concord/api.ErrCode", Rows.laid_concord_api_ErrCode), ("concord/api.ErrFuel", Rows.laid_concord_api_ErrFuel), ("concord/api.ErrDoc", Rows.laid_concord_api_ErrDoc), ("concord/api.ErrCommand", Rows.laid_concord_api_ErrCommand), ("strconv.ErrRange", Rows.laid_strconv_ErrRange), ("strconv.ErrSyntax", Rows.laid_strconv_ErrSyntax), ("math/big.leafSize", Rows.laid_math_big_leafSize), ("math/big.divRecursiveThreshold", Rows.laid_math_big_divRecursiveThreshold), ("math/big.karatsubaThreshold", Rows.laid_math_big_karatsubaThreshold), ("math/big.basicSqrThreshold", Rows.laid_math_big_basicSqrThreshold), ("math/big.karatsubaSqrThreshold", Rows.laid_math_big_karatsubaSqrThreshold)]
def kindsL : List LaidKind := [.data, .data, .data, .sentinel, .sentinel, .sentinel, .sentinel, .sentinel, .sentinel, .sentinel, .sentinel, .sentinel, .sentinel, .sentinel, .sentinel, .sentinel, .sentinel, .sentinel, .sentinel, .sentinel, .sentinel, .sentinel, .sentinel, .sentinel, .sentinel, .sentinel, .sentinel, .sentinel, .sentinel, .data, .data, .data, .data, .data]
theorem tieWord : Tryz.prog.worded (varsWordLater true) = true := by kernel_rfl
theorem tieWord2 : Tryz.prog.worded (varsWordLater !true) = false := by kernel_rfl
theorem tieRoot : Tryz.prog.worded rootWordLater = true := by kernel_rfl
theorem tieKinds : laidL.map (fun x => Tryz.prog.kindOfLater x.1) = kindsL.map some := by kernel_rfl
theorem tieDoor : (Tryz.prog.funcNamed "gosem.cut.vars").isSome = true := by kernel_rfl
theorem noOwnUnsafe : Tryz.pinned.checked.prog.headLifts.contains "ownunsafe" = false := by kernel_rfl
theorem ownKnobless : ownKnob Tryz.prog.godebug = none := by kernel_rfl
end Go.Proofs.YtniphaoadhojlaaGreatDoor
