/- Words and walks, shortened by a program: what this claim's functions answer, and that other memory stays. -/
import Derived.Test.YtfjhiiaahbjaiaaGreatDoorSSystemTellsx0
namespace Go.Proofs.YtfjhiiaahbjaiaaGreatDoor.HSystemTells
open Go.RowKit Go.Proofs.YtfjhiiaahbjaiaaGreatDoorW.PrintWords Go.Proofs.YtfjhiiaahbjaiaaGreatDoorW.PrintLast Go.Proofs.YtfjhiiaahbjaiaaGreatDoorW.PrintMore
attribute [local go_sem] Xb2 Xb0 Xcd Xcc Xbq Xbp Xb1 Xbz
set_option linter.unusedVariables false
set_option linter.unusedSimpArgs false
theorem eqA35(d:Nat)(w:World)(x0 y0:Int)(x1 y1:Int):
  (Op.equalIn (d+2) 35 (.agg #[.int .i64 x0,.int .i64 x1]) (.agg #[.int .i64 y0,.int .i64 y1])).run Tryz.prog w= .ok (x0==y0&&(x1==y1)) w:=by
 refine eqA_of Tryz.underlying35 J30 ?_;refine eqf_cons Xbm (by go_simp;rfl) (by go_simp;rfl) (by go_simp) ?_;exact eqf_last Xbm (by go_simp;rfl) (by go_simp;rfl) (by go_simp)
end Go.Proofs.YtfjhiiaahbjaiaaGreatDoor.HSystemTells
