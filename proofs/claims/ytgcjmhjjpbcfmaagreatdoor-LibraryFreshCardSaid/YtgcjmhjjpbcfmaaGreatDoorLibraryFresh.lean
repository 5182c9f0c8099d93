/-
  For every input: flowpipelaw51.LibraryFresh returns true, and each argument reads afterwards as before (the given card Rows.LibraryFreshCardSaid). The listed tables of Go's library hold what the program's text lays (the card ties them). No other condition.
-/
import Derived.Test.YtgcjmhjjpbcfmaaGreatDoorCards
import Derived.Test.YtgcjmhjjpbcfmaaGreatDoorTie
import Derived.Test.YtgcjmhjjpbcfmaaGreatDoorLiY
import Derived.Test.YtgcjmhjjpbcfmaaGreatDoorLfJ
import Derived.Test.YtgcjmhjjpbcfmaaGreatDoorWf
set_option linter.unusedVariables false
set_option linter.unusedSimpArgs false
namespace Go.Proofs.YtgcjmhjjpbcfmaaGreatDoor.libraryFresh
open Go.ChangeShapes Go.WideShapes Go.ChangeAt Go.RowKit
open Go.ChangeMaps (open_string shut_string)
set_option maxRecDepth 100000
theorem lifted(os:Os)(started:os.Started)(H:Type)(enc:TypeId×Value→H):
 ReturnsInHanded {} Tryz.checked os 4 .any (fun w args=>(Rows.libraryFreshSpec.pre enc Tryz.prog Tryz.f4 [] false w args∧laidMetH Tryz.prog laid8 w)∧sizedMet enc Tryz.prog Tryz.f4 (OpenSpec.ofChange Rows.libraryFreshSpec) false w args) (Rows.libraryFreshSpec.post enc Tryz.prog Tryz.f4 false true false false):=by
 refine returnsInHanded_of_change_and (C:=Tryz.checked) (X:=fun w _=>laidMetH Tryz.prog laid8 w) (fun _ _ _ hh h=>h.of_heap hh) own started (by kernel_rfl) Tryz.func4
  (ChangeSpec.witness_shaped (enc:=enc) (C:=Tryz.checked) (os:=os) (X:=fun w _=>laidMetH Tryz.prog laid8 w) false (laidWorld8 os) #[.int .u8 0] 8 rfl (World.shaped_of_RefB (by kernel_rfl) (by kernel_rfl)) (by kernel_rfl) (by kernel_rfl) (by kernel_rfl) (door_met8 os _)) ?_
 intro W base args ds gs before hval0 hW _ _ hL _;have i:RX W:=rx_of_laid8 hL;have k:FX W:=fx_of_laid8 hL;have a:∀(j:Nat) t v,Tryz.f4.params[j]? =some t→args[j]? =some v→Value.okWide Tryz.prog W .any base t v:=hval0;have l:=hW;obtain⟨p,q,b,m,rfl,x,y⟩:=hW;have c:DataW.TrodAll enc Tryz.prog W 0 (fun _=>true) true Tryz.f4.params.toList args.toList ds p:=b;rw[Tryz.params4]at c a;obtain⟨d,z,B,D,E,F,G,rfl,rfl,n,o⟩:=trodAll_cons c;obtain⟨rfl,rfl,rfl⟩:=trodAll_nil o
 obtain rfl:args=#[d]:=by cases args;simp_all
 obtain⟨rfl,rfl⟩:=trodVars_none m;obtain⟨I,rfl,rfl,rfl,g⟩:=open_int Tryz.underlying5 (a 0 5 d rfl rfl) n;obtain⟨r,s,u⟩:=Go.Fl.u8_of_wf g;subst s;clear b hval0
 refine(libraryFresh_any r W u i k).mono fun e W' ⟨he,bel⟩=>?_
 subst he;exact⟨_,rfl,_,_,_,[],_,[],l,trodAll_mk1 (shut_bool Tryz.underlying4 _),(trodAll_cons_mk (shut_int Tryz.underlying5 g) trodAll_mk0),rfl,bel.o.frame _,fun h=>by cases h⟩
theorem row_holds:Rows.LibraryFreshSaid:=
 OpenClaim.holds_of_wide 4 Tryz.f4 rfl rfl rfl rfl rfl rfl rfl ⟨rfl,rfl,rfl,rfl,rfl⟩ rfl rfl rfl rfl rfl rowJ.named Tryz.func4 rowJ.closed
  rowJ.inst rowJ.wrap
  (fun os started H enc _=>lifted os started H enc)
theorem proved:Rows.LibraryFreshCardSaid:=
  Claim7.holds_tied_plain_at .later [] [.data,.data,.data,.data,.sentinel,.sentinel,.mapped,.pinned] true Rows.libraryFreshCard.stood.harness true
    row_holds (fun _ h=>by cases h) (by kernel_rfl) (fun _ h=>by cases h) libraryFresh_row_tie rfl ⟨rfl,rfl⟩ (by kernel_rfl) rfl
    (fun f fn hf hfn=>by
      obtain rfl:f=4:=Option.some.inj ((show Tryz.prog.funcNamed "flowpipe/flowpipelaw51.LibraryFresh" =some 4 by kernel_rfl).symm.trans hf) |>.symm
      obtain rfl:fn=Tryz.f4:=(Option.some.inj (Tryz.func4.symm.trans hfn)).symm
      exact⟨by kernel_rfl,fun j t ht=>by
        rw[Tryz.params4]at ht;have hm:t∈[5]:=(by simpa using Array.mem_of_getElem? ht);have hall:([5].all fun u=> !Tryz.prog.wantsStandIn u)=true:=(by kernel_rfl)
        exact(show Tryz.prog.wantsStandIn t=false by simpa using List.all_eq_true.1 hall t hm)⟩)
    (by kernel_rfl)
#print axioms proved
