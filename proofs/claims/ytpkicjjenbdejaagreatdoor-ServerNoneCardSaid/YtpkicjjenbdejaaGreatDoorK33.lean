/- Part 33 of a proof: laws of a machine. -/
import Derived.Test.YtpkicjjenbdejaaGreatDoorRows
import Derived.LaidByTextLater
import Derived.SevenTiedAt
import Derived.LaidSub
import Derived.LaidOnce
set_option linter.all false

namespace Go.Proofs.YtpkicjjenbdejaaGreatDoor
open Go
set_option maxRecDepth 100000
def M6:List (String×DataW Unit):=[("unicode/utf8.acceptRanges",Rows.laid_unicode_utf8_acceptRanges),("diaeresis/json.errJson",Rows.laid_diaeresis_json_errJson),("strconv.ErrSyntax",Rows.laid_strconv_ErrSyntax),("strconv.ErrRange",Rows.laid_strconv_ErrRange),("internal/strconv.uint64pow10",Rows.laid_internal_strconv_uint64pow10),("math/bits.deBruijn32tab",Rows.laid_math_bits_deBruijn32tab),("math/bits.deBruijn64tab",Rows.laid_math_bits_deBruijn64tab),("errors.errorType",Rows.laid_errors_errorType),("diaeresis/server.errAsked",Rows.laid_diaeresis_server_errAsked),("diaeresis/buffer.errFull",Rows.laid_diaeresis_buffer_errFull),("diaeresis/buffer.errRange",Rows.laid_diaeresis_buffer_errRange),("diaeresis/relex.errFull",Rows.laid_diaeresis_relex_errFull),("diaeresis/relex.errRange",Rows.laid_diaeresis_relex_errRange),("diaeresis/group.errGroup",Rows.laid_diaeresis_group_errGroup),("diaeresis/parse.errSyntax",Rows.laid_diaeresis_parse_errSyntax),("diaeresis/node.errNode",Rows.laid_diaeresis_node_errNode),("diaeresis/edit.errEdit",Rows.laid_diaeresis_edit_errEdit),("diaeresis/eval.errNone",Rows.laid_diaeresis_eval_errNone),("diaeresis/number.errOver",Rows.laid_diaeresis_number_errOver),("diaeresis/number.errDivide",Rows.laid_diaeresis_number_errDivide),("diaeresis/frame.errFrame",Rows.laid_diaeresis_frame_errFrame)]
theorem tie_1:Tryz.prog.worded (varsWordLater true)=true:=by kernel_rfl
theorem tie_2:Tryz.prog.worded (varsWordLater !true)=false:=by kernel_rfl
theorem tie_3:Tryz.prog.worded rootWordLater=true:=by kernel_rfl
theorem tie_4:M6.map (fun x=>Tryz.prog.kindOfLater x.1)=([.data,.sentinel,.sentinel,.sentinel,.data,.data,.data,.handle,.sentinel,.sentinel,.sentinel,.sentinel,.sentinel,.sentinel,.sentinel,.sentinel,.sentinel,.sentinel,.sentinel,.sentinel,.sentinel]:List LaidKind).map some:=by kernel_rfl
theorem tie_5:(Tryz.prog.funcNamed "gosem.cut.vars").isSome=true:=by kernel_rfl
end Go.Proofs.YtpkicjjenbdejaaGreatDoor

