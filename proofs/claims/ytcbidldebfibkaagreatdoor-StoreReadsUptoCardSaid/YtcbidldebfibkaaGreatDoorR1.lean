import Derived.Test.YtcbidldebfibkaaGreatDoorQ0
import Derived.Test.YtcbidldebfibkaaGreatDoorRows
import Derived.LaidByTextLater
import Derived.LaidOnce
import Derived.LaidMore
set_option linter.unusedVariables false
set_option linter.unusedSimpArgs false
set_option linter.unusedSectionVars false
set_option linter.unnecessarySimpa false
set_option maxHeartbeats 0
namespace Go.Proofs.YtcbidldebfibkaaGreatDoor
open Go.Sx
open Go
def nS:List (String×DataW Unit):= [("concord/api.ErrSchema",Rows.laid_concord_api_ErrSchema),("concord/api.ErrRange",Rows.laid_concord_api_ErrRange),("concord/api.ErrOrder",Rows.laid_concord_api_ErrOrder),("concord/api.ErrTag",Rows.laid_concord_api_ErrTag),("concord/frame.zipTable",Rows.laid_concord_frame_zipTable),("concord/frame.sealTable",Rows.laid_concord_frame_sealTable),("concord/api.ErrCorrupt",Rows.laid_concord_api_ErrCorrupt),("concord/api.ErrShort",Rows.laid_concord_api_ErrShort),("concord/api.ErrSum",Rows.laid_concord_api_ErrSum),("concord/api.ErrTail",Rows.laid_concord_api_ErrTail),("concord/api.ErrVarint",Rows.laid_concord_api_ErrVarint),("concord/api.ErrLimit",Rows.laid_concord_api_ErrLimit),("concord/api.ErrSize",Rows.laid_concord_api_ErrSize),("concord/api.ErrField",Rows.laid_concord_api_ErrField),("concord/api.ErrValue",Rows.laid_concord_api_ErrValue),("concord/api.ErrPattern",Rows.laid_concord_api_ErrPattern),("concord/api.ErrStates",Rows.laid_concord_api_ErrStates),("concord/api.ErrSyntax",Rows.laid_concord_api_ErrSyntax),("concord/api.ErrDeep",Rows.laid_concord_api_ErrDeep),("concord/api.ErrNode",Rows.laid_concord_api_ErrNode),("concord/api.ErrTerms",Rows.laid_concord_api_ErrTerms),("concord/api.ErrScore",Rows.laid_concord_api_ErrScore),("concord/api.ErrCode",Rows.laid_concord_api_ErrCode),("concord/api.ErrFuel",Rows.laid_concord_api_ErrFuel),("concord/api.ErrDoc",Rows.laid_concord_api_ErrDoc),("concord/api.ErrCommand",Rows.laid_concord_api_ErrCommand),("strings.asciiSpace",Rows.laid_strings_asciiSpace),("unicode.White_Space",Rows.laid_unicode_White_Space),("math/bits.deBruijn64tab",Rows.laid_math_bits_deBruijn64tab)]
def A4:List LaidKind:= [.sentinel, .sentinel, .sentinel, .sentinel, .data, .data, .sentinel, .sentinel, .sentinel, .sentinel, .sentinel, .sentinel, .sentinel, .sentinel, .sentinel, .sentinel, .sentinel, .sentinel, .sentinel, .sentinel, .sentinel, .sentinel, .sentinel, .sentinel, .sentinel, .sentinel, .data, .listed, .data]
theorem GM:Tryz.prog.worded (varsWordLater true)=true:=aa
theorem Dn:Tryz.prog.worded (varsWordLater !true)=false:=aa
theorem GN:Tryz.prog.worded rootWordLater=true:=aa
theorem Dr:nS.map (fun x=> Tryz.prog.kindOfLater x.1)=A4.map some:=aa
theorem GO:(Tryz.prog.funcNamed "gosem.cut.vars").isSome=true:=aa
theorem ym:Tryz.pinned.checked.prog.headLifts.contains "ownunsafe" =false:=aa
theorem yg:ownKnob Tryz.prog.godebug=none:=aa
end Go.Proofs.YtcbidldebfibkaaGreatDoor
