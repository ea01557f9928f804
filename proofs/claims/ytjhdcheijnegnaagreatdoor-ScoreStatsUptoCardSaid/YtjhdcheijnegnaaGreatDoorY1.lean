import Derived.Test.YtjhdcheijnegnaaGreatDoorQ0
import Derived.Test.YtjhdcheijnegnaaGreatDoorRows
import Derived.LaidByTextLater
import Derived.LaidOnce
import Derived.LaidMore
set_option linter.all false
set_option maxHeartbeats 0
namespace Go.Proofs.YtjhdcheijnegnaaGreatDoor
open Go.Sx
open Go
def lO:List (String×DataW Unit):= [("concord/api.ErrValue",Rows.laid_concord_api_ErrValue),("strconv.ErrSyntax",Rows.laid_strconv_ErrSyntax),("strconv.ErrRange",Rows.laid_strconv_ErrRange),("internal/strconv.uint64pow10",Rows.laid_internal_strconv_uint64pow10),("math/bits.deBruijn32tab",Rows.laid_math_bits_deBruijn32tab),("math/bits.deBruijn64tab",Rows.laid_math_bits_deBruijn64tab),("math/big.basicSqrThreshold",Rows.laid_math_big_basicSqrThreshold),("math/big.karatsubaSqrThreshold",Rows.laid_math_big_karatsubaSqrThreshold),("math/big.leafSize",Rows.laid_math_big_leafSize),("math/big.divRecursiveThreshold",Rows.laid_math_big_divRecursiveThreshold),("math/big.karatsubaThreshold",Rows.laid_math_big_karatsubaThreshold),("concord/api.ErrShort",Rows.laid_concord_api_ErrShort),("concord/api.ErrVarint",Rows.laid_concord_api_ErrVarint),("concord/api.ErrLimit",Rows.laid_concord_api_ErrLimit),("concord/api.ErrOrder",Rows.laid_concord_api_ErrOrder),("concord/api.ErrTail",Rows.laid_concord_api_ErrTail),("concord/api.ErrTag",Rows.laid_concord_api_ErrTag),("concord/api.ErrSum",Rows.laid_concord_api_ErrSum),("concord/api.ErrRange",Rows.laid_concord_api_ErrRange),("concord/api.ErrSize",Rows.laid_concord_api_ErrSize),("concord/api.ErrCorrupt",Rows.laid_concord_api_ErrCorrupt),("concord/api.ErrSchema",Rows.laid_concord_api_ErrSchema),("concord/api.ErrField",Rows.laid_concord_api_ErrField),("concord/api.ErrPattern",Rows.laid_concord_api_ErrPattern),("concord/api.ErrStates",Rows.laid_concord_api_ErrStates),("concord/api.ErrSyntax",Rows.laid_concord_api_ErrSyntax),("concord/api.ErrDeep",Rows.laid_concord_api_ErrDeep),("concord/api.ErrNode",Rows.laid_concord_api_ErrNode),("concord/api.ErrTerms",Rows.laid_concord_api_ErrTerms),("concord/api.ErrScore",Rows.laid_concord_api_ErrScore),("concord/api.ErrCode",Rows.laid_concord_api_ErrCode),("concord/api.ErrFuel",Rows.laid_concord_api_ErrFuel),("concord/api.ErrDoc",Rows.laid_concord_api_ErrDoc),("concord/api.ErrCommand",Rows.laid_concord_api_ErrCommand),("strings.asciiSpace",Rows.laid_strings_asciiSpace),("unicode.White_Space",Rows.laid_unicode_White_Space),("concord/frame.zipTable",Rows.laid_concord_frame_zipTable),("concord/frame.sealTable",Rows.laid_concord_frame_sealTable)]
def zS:List LaidKind:= [.sentinel, .sentinel, .sentinel, .data, .data, .data, .data, .data, .data, .data, .data, .sentinel, .sentinel, .sentinel, .sentinel, .sentinel, .sentinel, .sentinel, .sentinel, .sentinel, .sentinel, .sentinel, .sentinel, .sentinel, .sentinel, .sentinel, .sentinel, .sentinel, .sentinel, .sentinel, .sentinel, .sentinel, .sentinel, .sentinel, .data, .listed, .data, .data]
theorem Hv:Tryz.prog.worded (varsWordLater true)=true:=aa
theorem DR:Tryz.prog.worded (varsWordLater !true)=false:=aa
theorem Hw:Tryz.prog.worded rootWordLater=true:=aa
theorem DU:lO.map (fun x=> Tryz.prog.kindOfLater x.1)=zS.map some:=aa
theorem Hx:(Tryz.prog.funcNamed "gosem.cut.vars").isSome=true:=aa
theorem xV:Tryz.pinned.checked.prog.headLifts.contains "ownunsafe" =false:=aa
theorem xP:ownKnob Tryz.prog.godebug=none:=aa
end Go.Proofs.YtjhdcheijnegnaaGreatDoor
