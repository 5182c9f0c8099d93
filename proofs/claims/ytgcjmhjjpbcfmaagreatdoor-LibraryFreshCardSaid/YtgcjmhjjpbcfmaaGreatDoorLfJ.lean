import Derived.Test.YtgcjmhjjpbcfmaaGreatDoorRows
import Derived.WalkKit
import Derived.JoinedOf
set_option linter.unusedVariables false
set_option linter.unusedSimpArgs false
namespace Go.Proofs.YtgcjmhjjpbcfmaaGreatDoor.rowJ
open Go.RowKit
def J0(P:Program)(f:FuncId)(fn:Func)(s:ChangeSpec)(c:OpenClaim):Bool:=c.wf (OpenSpec.ofChange s)&&laidOutB P&&mapsRowed P&&fn.params.all (P.readableRec ·)&&namedTie P c.named s.vars&&(c.stops==[])&&(P.stops==[])&&(c.knobs==[])&&(P.stopKnobs==[])
def J1(P:Program)(f:FuncId)(fn:Func)(s:ChangeSpec)(c:OpenClaim):Bool:=(c.inPlace==P.inPlace f)&&(c.unfollowed==P.unfollowed f)&&(c.recurses==P.recurses f)&&(c.named==P.varsNamed f)
def J2(P:Program)(f:FuncId)(fn:Func)(s:ChangeSpec)(c:OpenClaim):Bool:=(c.maps==(fn.params.toList++s.plain.varTypes P).any (P.mapsRec ·))&&(c.ifaces==(fn.params.toList++s.plain.varTypes P).any (P.ifacesRec ·))&&(c.mapsOut==P.mapsAmong fn.resultTypes.toList)&&(c.loops==(fn.params.toList++s.plain.varTypes P).any (P.loopsFrom ·))&&(c.wideKeys==(fn.params.toList++s.plain.varTypes P++fn.resultTypes.toList).any (P.wideKeysFrom ·))&&s.vars.all (P.varReadable ·)&&fn.resultTypes.all (fun t=>P.readableRec t&&decide (t<P.types.size))&&(c.ifacesOut==fn.resultTypes.toList.any (P.ifacesRec ·))&&(c.loopsOut==fn.resultTypes.toList.any (P.loopsFrom ·))&&(c.plainKeys==P.plainKeys)&&c.shortTexts.isNone&&P.stopsHeard&&P.mayEnter&&(c.lifted==P.liftsFinal)&&(P.make==some c.make)&&(c.kinds==(if c.domain.isEmpty then []else fn.params.toList.map fun t=>match P.underlying t with | some (.int k)=>some k | _=>none))&&(c.pinned==c.pinnedBy)&&(c.veiled==(fn.params.toList++s.plain.varTypes P++fn.resultTypes.toList).any (P.veiledRec ·))&&c.veiledFits P fn.params.toList (fn.params.toList++s.plain.varTypes P++fn.resultTypes.toList)
theorem jj(P f fn s c):joinedFacts P f fn s c=(J0 P f fn s c&&J1 P f fn s c&&J2 P f fn s c):=by simp only[joinedFacts,J0,J1,J2,Bool.and_assoc];rfl
theorem g0:J0 Tryz.prog 4 Tryz.f4 Rows.libraryFreshSpec Rows.libraryFreshRow=true:=by kernel_rfl
theorem g1:J1 Tryz.prog 4 Tryz.f4 Rows.libraryFreshSpec Rows.libraryFreshRow=true:=by kernel_rfl
theorem g2:J2 Tryz.prog 4 Tryz.f4 Rows.libraryFreshSpec Rows.libraryFreshRow=true:=by kernel_rfl
theorem closed:joinedFacts Tryz.prog 4 Tryz.f4 Rows.libraryFreshSpec Rows.libraryFreshRow=true:=by rw[jj,g0,g1,g2];rfl
theorem inst:Tryz.f4.isInstance Tryz.prog Rows.libraryFreshRow.origin Rows.libraryFreshRow.targs:=of_decide_eq_true (by kernel_rfl)
theorem wrap:Tryz.f4.isWrapper Tryz.prog Rows.libraryFreshRow.wrapper Rows.libraryFreshRow.mainSum:=by unfold Func.isWrapper;first | (rw[if_pos (by decide+kernel)];kernel_rfl) | (rw[if_neg (by decide+kernel)];exact⟨rfl,rfl⟩)
theorem named:Tryz.prog.funcNamed Rows.libraryFreshRow.func=some 4:=by kernel_rfl
