import Derived.Test.YtcokhbglfaakjaaGreatDoorQ0
import Derived.Test.YtcokhbglfaakjaaGreatDoorRows
import Derived.LaidByTextLater
import Derived.LaidOnce
import Derived.LaidMore
set_option linter.all false
set_option maxHeartbeats 0
namespace Go.Proofs.YtcokhbglfaakjaaGreatDoor
open Go.Sx
open Go
def qp:List (String×DataW Unit):= [("concord/api.ErrLimit",Rows.laid_concord_api_ErrLimit),("concord/api.ErrRange",Rows.laid_concord_api_ErrRange),("concord/api.ErrOrder",Rows.laid_concord_api_ErrOrder),("concord/api.ErrSchema",Rows.laid_concord_api_ErrSchema),("concord/api.ErrField",Rows.laid_concord_api_ErrField),("concord/api.ErrValue",Rows.laid_concord_api_ErrValue),("strings.asciiSpace",Rows.laid_strings_asciiSpace),("unicode.White_Space",Rows.laid_unicode_White_Space),("concord/api.ErrTag",Rows.laid_concord_api_ErrTag),("concord/frame.zipTable",Rows.laid_concord_frame_zipTable),("concord/frame.sealTable",Rows.laid_concord_frame_sealTable),("concord/api.ErrCorrupt",Rows.laid_concord_api_ErrCorrupt),("concord/api.ErrShort",Rows.laid_concord_api_ErrShort),("concord/api.ErrSum",Rows.laid_concord_api_ErrSum),("concord/api.ErrTail",Rows.laid_concord_api_ErrTail),("concord/api.ErrVarint",Rows.laid_concord_api_ErrVarint),("concord/api.ErrSize",Rows.laid_concord_api_ErrSize),("concord/api.ErrCode",Rows.laid_concord_api_ErrCode),("concord/isa.table",Rows.laid_concord_isa_table),("concord/api.ErrFuel",Rows.laid_concord_api_ErrFuel),("concord/api.ErrPattern",Rows.laid_concord_api_ErrPattern),("concord/api.ErrStates",Rows.laid_concord_api_ErrStates),("concord/api.ErrSyntax",Rows.laid_concord_api_ErrSyntax),("concord/api.ErrDeep",Rows.laid_concord_api_ErrDeep),("concord/api.ErrNode",Rows.laid_concord_api_ErrNode),("concord/api.ErrTerms",Rows.laid_concord_api_ErrTerms),("concord/api.ErrScore",Rows.laid_concord_api_ErrScore),("concord/api.ErrDoc",Rows.laid_concord_api_ErrDoc),("concord/api.ErrCommand",Rows.laid_concord_api_ErrCommand)]
def AX:List LaidKind:= [.sentinel, .sentinel, .sentinel, .sentinel, .sentinel, .sentinel, .data, .listed, .sentinel, .data, .data, .sentinel, .sentinel, .sentinel, .sentinel, .sentinel, .sentinel, .sentinel, .data, .sentinel, .sentinel, .sentinel, .sentinel, .sentinel, .sentinel, .sentinel, .sentinel, .sentinel, .sentinel]
theorem Nx:Tryz.prog.worded (varsWordLater true)=true:=aa
theorem JA:Tryz.prog.worded (varsWordLater !true)=false:=aa
theorem Ny:Tryz.prog.worded rootWordLater=true:=aa
theorem JD:qp.map (fun x=> Tryz.prog.kindOfLater x.1)=AX.map some:=aa
theorem Nz:(Tryz.prog.funcNamed "gosem.cut.vars").isSome=true:=aa
theorem vT:Tryz.pinned.checked.prog.headLifts.contains "ownunsafe" =false:=aa
theorem CE:ownKnob Tryz.prog.godebug=none:=aa
end Go.Proofs.YtcokhbglfaakjaaGreatDoor
