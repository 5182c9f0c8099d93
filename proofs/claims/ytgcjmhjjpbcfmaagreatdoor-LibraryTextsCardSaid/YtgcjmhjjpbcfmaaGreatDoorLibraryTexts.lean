/-
  For every input: flowpipelaw51.LibraryTexts returns true, and each argument reads afterwards as before (the given card Rows.LibraryTextsCardSaid). The listed tables of Go's library hold what the program's text lays (the card ties them). No other condition.
-/
import Derived.Test.YtgcjmhjjpbcfmaaGreatDoorCards
import Derived.Test.YtgcjmhjjpbcfmaaGreatDoorTie
import Derived.Test.YtgcjmhjjpbcfmaaGreatDoorRo
import Derived.Test.YtgcjmhjjpbcfmaaGreatDoorLtJ
import Derived.Test.YtgcjmhjjpbcfmaaGreatDoorWf
import Derived.ShutString
import Derived.SevenTiedAt
namespace Go.Proofs.YtgcjmhjjpbcfmaaGreatDoor.libraryTexts
open Go.ChangeShapes Go.WideShapes Go.ChangeAt Go.RowKit
open Go.ChangeMaps (open_string shut_string)
set_option maxRecDepth 100000
theorem lifted(os:Os)(started:os.Started)(H:Type)(enc:TypeId×Value→H):
 ReturnsInHanded {} Tryz.checked os 3 .any (fun w args=>(Rows.libraryTextsSpec.pre enc Tryz.prog Tryz.f3 [] false w args∧laidMetH Tryz.prog laid8 w)∧sizedMet enc Tryz.prog Tryz.f3 (OpenSpec.ofChange Rows.libraryTextsSpec) false w args) (Rows.libraryTextsSpec.post enc Tryz.prog Tryz.f3 false true false false):=by
 refine returnsInHanded_of_change_and (C:=Tryz.checked) (X:=fun w _=>laidMetH Tryz.prog laid8 w) (fun _ _ _ hh h=>h.of_heap hh) own started (by kernel_rfl) Tryz.func3
  (ChangeSpec.witness_shaped (enc:=enc) (C:=Tryz.checked) (os:=os) (X:=fun w _=>laidMetH Tryz.prog laid8 w) false (laidWorld8 os) #[.int .u8 0,.string ByteArray.empty] 8 rfl (World.shaped_of_RefB (by kernel_rfl) (by kernel_rfl)) (by kernel_rfl) (by kernel_rfl) (by kernel_rfl) (door_met8 os _)) ?_
 intro W base args ds gs before hval0 hW _ _ hL _;have k:RX W:=rx_of_laid8 hL;have l:FX W:=fx_of_laid8 hL;have a:∀(j:Nat) t v,Tryz.f3.params[j]? =some t→args[j]? =some v→Value.okWide Tryz.prog W .any base t v:=hval0;have m:=hW;obtain⟨p,q,b,n,rfl,E,F⟩:=hW;have c:DataW.TrodAll enc Tryz.prog W 0 (fun _=>true) true Tryz.f3.params.toList args.toList ds p:=b;rw[Tryz.params3]at c a;obtain⟨d,G,I,J,L,M,N,rfl,rfl,o,r⟩:=trodAll_cons c;obtain⟨g,O,P,Q,R,S,rfl,rfl,rfl,s,u⟩:=trodAll_cons r;obtain⟨rfl,rfl,rfl⟩:=trodAll_nil u
 obtain rfl:args=#[d,g]:=by cases args;simp_all
 obtain⟨rfl,rfl⟩:=trodVars_none n;obtain⟨T,rfl,rfl,rfl,i⟩:=open_int Tryz.underlying5 (a 0 5 d rfl rfl) o;obtain⟨x,y,z⟩:=Go.Fl.u8_of_wf i;subst y;obtain⟨B,rfl,rfl,rfl,D⟩:=open_string Tryz.underlying9 (a 1 9 g rfl rfl) s;clear b hval0
 refine(libraryTexts_any x B W z k l).mono fun e W' ⟨he,bel⟩=>?_
 subst he;exact⟨_,rfl,_,_,_,[],_,[],m,trodAll_mk1 (shut_bool Tryz.underlying4 _),(trodAll_cons_mk (shut_int Tryz.underlying5 i) (trodAll_cons_mk (shut_string Tryz.underlying9 D) trodAll_mk0)),rfl,bel.o.frame _,fun h=>by cases h⟩
theorem row_holds:Rows.LibraryTextsSaid:=
 OpenClaim.holds_of_wide 3 Tryz.f3 rfl rfl rfl rfl rfl rfl rfl ⟨rfl,rfl,rfl,rfl,rfl⟩ rfl rfl rfl rfl rfl rowJ.named Tryz.func3 rowJ.closed
  rowJ.inst rowJ.wrap
  (fun os started H enc _=>lifted os started H enc)
theorem proved:Rows.LibraryTextsCardSaid:=
  Claim7.holds_tied_plain_at .later [] [.data,.data,.data,.data,.sentinel,.sentinel,.mapped,.pinned] true Rows.libraryTextsCard.stood.harness true
    row_holds (fun _ h=>by cases h) (by kernel_rfl) (fun _ h=>by cases h) libraryTexts_row_tie rfl ⟨rfl,rfl⟩ (by kernel_rfl) rfl
    (fun f fn hf hfn=>by
      obtain rfl:f=3:=Option.some.inj ((show Tryz.prog.funcNamed "flowpipe/flowpipelaw51.LibraryTexts" =some 3 by kernel_rfl).symm.trans hf) |>.symm
      obtain rfl:fn=Tryz.f3:=(Option.some.inj (Tryz.func3.symm.trans hfn)).symm
      exact⟨by kernel_rfl,fun j t ht=>by
        rw[Tryz.params3]at ht
        have hm:t∈[5,9]:=by simpa using Array.mem_of_getElem? ht
        have hall:([5,9].all fun u=> !Tryz.prog.wantsStandIn u)=true:=by kernel_rfl
        exact(show Tryz.prog.wantsStandIn t=false by simpa using List.all_eq_true.1 hall t hm)⟩)
    (by kernel_rfl)
#print axioms proved
