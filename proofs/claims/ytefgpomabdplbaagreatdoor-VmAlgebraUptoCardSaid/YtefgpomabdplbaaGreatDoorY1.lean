import Derived.Test.YtefgpomabdplbaaGreatDoorQ0
import Derived.Test.YtefgpomabdplbaaGreatDoorRows
import Derived.LaidByTextLater
import Derived.LaidOnce
import Derived.LaidMore
set_option linter.unusedVariables false
set_option linter.unusedSimpArgs false
set_option linter.unusedSectionVars false
set_option linter.unnecessarySimpa false
set_option maxHeartbeats 0
namespace Go.Proofs.YtefgpomabdplbaaGreatDoor
open Go.Sx
open Go
def nh:List (String×DataW Unit):= [("concord/api.ErrShort",Rows.laid_concord_api_ErrShort),("concord/api.ErrVarint",Rows.laid_concord_api_ErrVarint),("concord/api.ErrLimit",Rows.laid_concord_api_ErrLimit),("concord/api.ErrOrder",Rows.laid_concord_api_ErrOrder),("concord/api.ErrTail",Rows.laid_concord_api_ErrTail),("concord/api.ErrTag",Rows.laid_concord_api_ErrTag),("concord/api.ErrSum",Rows.laid_concord_api_ErrSum),("concord/api.ErrRange",Rows.laid_concord_api_ErrRange),("concord/api.ErrSize",Rows.laid_concord_api_ErrSize),("concord/api.ErrCorrupt",Rows.laid_concord_api_ErrCorrupt),("concord/api.ErrSchema",Rows.laid_concord_api_ErrSchema),("concord/api.ErrField",Rows.laid_concord_api_ErrField),("concord/api.ErrValue",Rows.laid_concord_api_ErrValue),("concord/api.ErrCode",Rows.laid_concord_api_ErrCode),("concord/api.ErrFuel",Rows.laid_concord_api_ErrFuel),("concord/frame.zipTable",Rows.laid_concord_frame_zipTable),("concord/frame.sealTable",Rows.laid_concord_frame_sealTable),("unicode.White_Space",Rows.laid_unicode_White_Space),("strings.asciiSpace",Rows.laid_strings_asciiSpace),("concord/isa.table",Rows.laid_concord_isa_table)]
def AB:List LaidKind:= [.sentinel, .sentinel, .sentinel, .sentinel, .sentinel, .sentinel, .sentinel, .sentinel, .sentinel, .sentinel, .sentinel, .sentinel, .sentinel, .sentinel, .sentinel, .data, .data, .listed, .data, .data]
theorem Ik:Tryz.prog.worded (varsWordLater true)=true:=a8
theorem EE:Tryz.prog.worded (varsWordLater !true)=false:=a8
theorem Il:Tryz.prog.worded rootWordLater=true:=a8
theorem EI:nh.map (fun x=> Tryz.prog.kindOfLater x.1)=AB.map some:=a8
theorem Im:(Tryz.prog.funcNamed "gosem.cut.vars").isSome=true:=a8
theorem yr:Tryz.pinned.checked.prog.headLifts.contains "ownunsafe" =false:=a8
theorem ym:ownKnob Tryz.prog.godebug=none:=a8
end Go.Proofs.YtefgpomabdplbaaGreatDoor
