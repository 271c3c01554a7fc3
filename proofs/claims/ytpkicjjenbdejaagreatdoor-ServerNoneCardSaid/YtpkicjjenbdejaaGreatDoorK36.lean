/- Part 36 of a proof: laws of a machine. -/
import Derived.Test.YtpkicjjenbdejaaGreatDoorK34
import Derived.Test.YtpkicjjenbdejaaGreatDoorK35
set_option linter.all false

namespace Go.Proofs.YtpkicjjenbdejaaGreatDoor
open Go
set_option maxRecDepth 100000
theorem YL:Tryz.pinned.checked.prog.pinnedFits "unicode/utf8.first"=true:=by kernel_rfl
theorem ZH:Tryz.pinned.checked.prog.headLifts.contains "ownunsafe"=false:=by kernel_rfl
theorem fits1:Tryz.pinned.checked.prog.listedFits [("unicode/utf8.first",Rows.laid_unicode_utf8_first),("unicode/utf8.acceptRanges",Rows.laid_unicode_utf8_acceptRanges),("diaeresis/json.errJson",Rows.laid_diaeresis_json_errJson),("strconv.ErrSyntax",Rows.laid_strconv_ErrSyntax),("strconv.ErrRange",Rows.laid_strconv_ErrRange),("internal/strconv.uint64pow10",Rows.laid_internal_strconv_uint64pow10),("math/bits.deBruijn32tab",Rows.laid_math_bits_deBruijn32tab),("math/bits.deBruijn64tab",Rows.laid_math_bits_deBruijn64tab),("errors.errorType",Rows.laid_errors_errorType),("diaeresis/server.errAsked",Rows.laid_diaeresis_server_errAsked),("diaeresis/buffer.errFull",Rows.laid_diaeresis_buffer_errFull),("diaeresis/buffer.errRange",Rows.laid_diaeresis_buffer_errRange),("diaeresis/relex.errFull",Rows.laid_diaeresis_relex_errFull),("diaeresis/relex.errRange",Rows.laid_diaeresis_relex_errRange),("diaeresis/group.errGroup",Rows.laid_diaeresis_group_errGroup),("diaeresis/parse.errSyntax",Rows.laid_diaeresis_parse_errSyntax),("diaeresis/node.errNode",Rows.laid_diaeresis_node_errNode),("diaeresis/edit.errEdit",Rows.laid_diaeresis_edit_errEdit),("diaeresis/eval.errNone",Rows.laid_diaeresis_eval_errNone),("diaeresis/number.errOver",Rows.laid_diaeresis_number_errOver),("diaeresis/number.errDivide",Rows.laid_diaeresis_number_errDivide),("diaeresis/frame.errFrame",Rows.laid_diaeresis_frame_errFrame)]=true:=by unfold Program.listedFits;rw[ZH];kernel_rfl
theorem tie:Tryz.prog.laidByTextLater [("unicode/utf8.acceptRanges",Rows.laid_unicode_utf8_acceptRanges),("diaeresis/json.errJson",Rows.laid_diaeresis_json_errJson),("strconv.ErrSyntax",Rows.laid_strconv_ErrSyntax),("strconv.ErrRange",Rows.laid_strconv_ErrRange),("internal/strconv.uint64pow10",Rows.laid_internal_strconv_uint64pow10),("math/bits.deBruijn32tab",Rows.laid_math_bits_deBruijn32tab),("math/bits.deBruijn64tab",Rows.laid_math_bits_deBruijn64tab),("errors.errorType",Rows.laid_errors_errorType),("diaeresis/server.errAsked",Rows.laid_diaeresis_server_errAsked),("diaeresis/buffer.errFull",Rows.laid_diaeresis_buffer_errFull),("diaeresis/buffer.errRange",Rows.laid_diaeresis_buffer_errRange),("diaeresis/relex.errFull",Rows.laid_diaeresis_relex_errFull),("diaeresis/relex.errRange",Rows.laid_diaeresis_relex_errRange),("diaeresis/group.errGroup",Rows.laid_diaeresis_group_errGroup),("diaeresis/parse.errSyntax",Rows.laid_diaeresis_parse_errSyntax),("diaeresis/node.errNode",Rows.laid_diaeresis_node_errNode),("diaeresis/edit.errEdit",Rows.laid_diaeresis_edit_errEdit),("diaeresis/eval.errNone",Rows.laid_diaeresis_eval_errNone),("diaeresis/number.errOver",Rows.laid_diaeresis_number_errOver),("diaeresis/number.errDivide",Rows.laid_diaeresis_number_errDivide),("diaeresis/frame.errFrame",Rows.laid_diaeresis_frame_errFrame)] [.data,.sentinel,.sentinel,.sentinel,.data,.data,.data,.handle,.sentinel,.sentinel,.sentinel,.sentinel,.sentinel,.sentinel,.sentinel,.sentinel,.sentinel,.sentinel,.sentinel,.sentinel,.sentinel] true :=
 Program.laidByTextLater_by_one 400 8 65 tie_1 tie_2 tie_3 tie_4 tie_5 tie_6 tie_7
theorem YN:Rows.serverNoneRow.laidByTextAt .later Tryz.pinned [.pinned,.data,.sentinel,.sentinel,.sentinel,.data,.data,.data,.handle,.sentinel,.sentinel,.sentinel,.sentinel,.sentinel,.sentinel,.sentinel,.sentinel,.sentinel,.sentinel,.sentinel,.sentinel,.sentinel] true :=
 OpenClaim.laidByTextAt_pinned rfl rfl tie rfl rfl rfl rfl (fun y hy _e=>by
  simp only[Rows.serverNoneRow,List.zip_cons_cons,List.zip_nil_right,List.mem_cons,List.mem_nil_iff,or_false] at hy;rcases hy with rfl | rfl | rfl | rfl | rfl | rfl | rfl | rfl | rfl | rfl | rfl | rfl | rfl | rfl | rfl | rfl | rfl | rfl | rfl | rfl | rfl | rfl;·exact⟨YL,by kernel_rfl⟩
  ·cases _e
  ·cases _e
  ·cases _e
  ·cases _e
  ·cases _e
  ·cases _e
  ·cases _e
  ·cases _e
  ·cases _e
  ·cases _e
  ·cases _e
  ·cases _e
  ·cases _e
  ·cases _e
  ·cases _e
  ·cases _e
  ·cases _e
  ·cases _e
  ·cases _e
  ·cases _e
  ·cases _e) fits1
end Go.Proofs.YtpkicjjenbdejaaGreatDoor

