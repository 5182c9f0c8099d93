import Derived.Test.YtgcjmhjjpbcfmaaGreatDoorLiQ
import Derived.Test.YtgcjmhjjpbcfmaaGreatDoorRcE
set_option linter.unusedVariables false
set_option linter.unusedSimpArgs false
open List renaming setIfInBounds_toArray → Lj,set_cons_zero → Lk,set_cons_succ → Lq,getElem_toArray → Ly,getElem_cons_zero → Lz,getElem_cons_succ → Lv
set_option maxHeartbeats 8000000
set_option maxRecDepth 100000
namespace Go.Proofs.YtgcjmhjjpbcfmaaGreatDoor
open Go.RowKit Go.Fl Go.Fl.Nm Go.Fl.Dy Go.Fl.Fm Go.Fl.Rt Go.Fl.Lb
theorem renc_23(w:World):Calls Tryz.prog 19 #[.agg #[.i 2,.i 3],.i 60] w (IvQ (enV 2 3 60) w):=
  (encloseR_pos 2 3 60 w (by decide) (by decide) (by decide) (by decide) (by decide) (by decide) (by decide) (by decide)).mono (by
    rintro e w' ⟨A,B,a,c,m,d',he,h5,h6,h7⟩
    exact⟨⟨enV 2 3 60,A,a,c,B,m,d'⟩,he,hI rfl,hI ⟨h5.o,h6.o,enV_ok 2 3 60⟩,h7⟩)
theorem val_one{w:World}{base:Nat}{v:Value}{q:IvN}(h:OwnN w base 77 7 v 1 ([q].flatMap IvN.cl)):∃(b o c:Nat),v= .l (some ⟨b,o,none⟩) 1 c∧Hid (At w b o (IvN.cl q)):=by
 obtain⟨A,c,hv,_,_,_,hrd⟩:=h.rd;obtain⟨b,o,hA,hb,hc⟩:=hrd.at_ Nat.one_pos;subst hA;exact⟨b,o,c,hv,hI ⟨hb,fun j u hu=>hc j u (by simpa using hu)⟩⟩
theorem awake51_any(w:World)(hR:RX w)(hX:FX w):Calls Tryz.prog 5 #[] w (Ret (.b true) w):=by
 have O:=hI hR;have P:=hI hX;clear hR hX;have Q:=hI (Below.refl w.heap.size w)
 go_in
 go_wp2_with fail;generalize hw9:World.alloc _ _=ww1;obtain⟨p,R⟩:=gn1 hw9;clear hw9;have T:=Q.o.t p;have U:=hI (show InL 2 rtc R64 ww1 (some ⟨w.heap.size,0,none⟩) 1 1 [(1,1)]from⟨rfl,Nat.le_refl _,by decide,rd_blk R.o rfl,fun z hz=>by rw[List.mem_singleton.1 hz];exact⟨by decide,by decide,by decide,by decide⟩⟩);have V:=hI (show InL 2 rtc R64 ww1 none 0 0 []from⟨rfl,Nat.le_refl _,by decide,rd_nil _ _,fun z hz=>absurd hz (by simp)⟩);have s:=hI (known_yes ap0 4 ⟨#[100,101,99,97,121]⟩ (some ⟨w.heap.size,0,none⟩) 1 1 [(1,1)] none 0 0 [] (1,2) 53 ww1 U.o V.o ⟨by decide,by decide,by decide,by decide⟩ (O.o.belowW p.o) (P.o.belowW p.o) (by show(fE bDc).2=0;rw[fE_dc]) (by show(fE bDc).1.kn≠[];rw[fE_dc];unfold en0;simp) (by show _=(pO bDc).st.length;rw[pO_dc];rfl) (by show _=(pO bDc).pa.length;rw[pO_dc];rfl) (by decide) rfl (by decide) (by decide) (by decide) (by decide) (by decide) ok_dc (fun _=>pb_dc));rw[show outV ap0 (⟨#[100,101,99,97,121]⟩:ByteArray).data.toList ([(1,1)]++[]++[(1,2)]) 53 4=[dcV]from out_dc]at s;go_wp2_with fail;refine(s.o).mono ?_;rintro e ww2 ⟨v,W,y,rfl,C,X⟩;have D:=T.o.t X
 obtain⟨Y,q,Z,aa,E,ab,F⟩:W=0∧∃q,v=v∧y=[q]∧Hid (OwnN ww2 ww1.heap.size 77 7 v 1 ([q].flatMap IvN.cl))∧Hid (InI ww2 q)∧Hid (q.x=dcV):=by
  rcases C.o with⟨h,_⟩ | ⟨_,h1,h2,h3,h4⟩
  ·
   exfalso
   rw[List.any_cons,List.any_nil,meet_dc.1]at h
   cases h
  have h5:y.length=1:=by
   have G:=congrArg List.length h4;rw[List.length_map]at G;exact G
  obtain⟨q,hq⟩:=List.length_eq_one_iff.1 h5;subst hq;exact⟨h1,q,rfl,rfl,hI h2,hI (h3 q (by simp)),hI (List.singleton_inj.1 h4)⟩
 subst Y aa;clear Z C;obtain⟨j,k,c9,ae,af⟩:=val_one E.o;subst ae;clear E;have ag:=hI meet_dc.2;have aq:=hI F.o;have ar:=hI D.o;go_upto_region 2 with(fail);have o:=hI (below_dr ww2);have H:=D.o.t o;have a:=af.o.b9 o;have I:=ab.o.b9 o
 refine wp_region_held_drew (S:=fun w'=>w'.cell? ⟨j,k,none⟩=some (.b q.x.lo.neg)∧w'.cell? ⟨j,k+1,none⟩=some (.l q.A q.n q.c)∧w'.cell? ⟨j,k+2,none⟩=some (.i q.x.lo.e)∧w'.cell? ⟨j,k+3,none⟩=some (.b q.x.hi.neg)∧w'.cell? ⟨j,k+4,none⟩=some (.l q.B q.m q.d)∧w'.cell? ⟨j,k+5,none⟩=some (.i q.x.hi.e)∧w'.cell? ⟨j,k+6,none⟩=some (.b q.x.all)) (by kernel_rfl) ⟨a.o.c 0 _ rfl,a.o.c 1 _ rfl,a.o.c 2 _ rfl,a.o.c 3 _ rfl,a.o.c 4 _ rfl,a.o.c 5 _ rfl,a.o.c 6 _ rfl⟩ fun hHeld=>?_
 obtain⟨ah,J⟩:=eX (ww2.drew);rw[←J]at o H a I hHeld ⊢;clear J;refine tkW 0 ?_;refine tkW 1 ?_;refine tkW 2 ?_;refine tkW 3 ?_;refine tkW 4 ?_;refine tkW 5 ?_;refine tkW 6 ?_;refine tkW 7 ?_;refine tkW 8 ?_;refine tkW 9 ?_;refine tkW 10 ?_;refine tkW 11 ?_
 refine wr1 12 fun K hK=>?_
 go_simp
 (with_reducible refine(renc_23 ah).mono ?_)
 rintro e w122 ⟨u,rfl,ai,HU,r⟩;have ak:=H.o.t r;have b:=a.o.b9 r;go_wp2_with fail;clear hHeld
 refine hK.out _ _ ⟨b.o.c 0 _ rfl,b.o.c 1 _ rfl,b.o.c 2 _ rfl,b.o.c 3 _ rfl,b.o.c 4 _ rfl,b.o.c 5 _ rfl,b.o.c 6 _ rfl⟩ fun hHeld=>?_
 clear hK K
 try simp only[Lj,Lk,Lq]
 refine wr1 13 fun K hK=>?_
 go_simp
 (with_reducible refine(show Calls Tryz.prog 18 #[.agg #[.b q.x.lo.neg,.l q.A q.n q.c,.i q.x.lo.e,.b q.x.hi.neg,.l q.B q.m q.d,.i q.x.hi.e,.b q.x.all],.agg #[.b u.x.lo.neg,.l u.A u.n u.c,.i u.x.lo.e,.b u.x.hi.neg,.l u.B u.m u.d,.i u.x.hi.e,.b u.x.all]] w122 _ from meets_in q u w122 (I.o.belowW r.o) (HU.o)).mono ?_)
 rw[F.o,ai.o,ag.o];rintro e w123 ⟨rfl,L⟩;have al:=ak.o.t L;have g:=b.o.b9 L;go_wp2_with fail;clear hHeld
 refine hK.out _ _ ⟨g.o.c 0 _ rfl,g.o.c 1 _ rfl,g.o.c 2 _ rfl,g.o.c 3 _ rfl,g.o.c 4 _ rfl,g.o.c 5 _ rfl,g.o.c 6 _ rfl⟩ fun hHeld=>?_
 clear hK K
 try simp only[Lj,Lk,Lq]
 refine tkW 14 ?_;refine tkW 15 ?_
 refine wr1 16 fun K hK=>?_
 go_simp
 (with_reducible refine(names_any w123).mono ?_)
 rintro e w124 ⟨vn,ln,rfl,am,aw,M⟩;have an:=al.o.t M;have i:=g.o.b9 M;obtain⟨An,cn,ao,_,_,_,_⟩:=am.o.rd;subst ao;go_wp2_with fail;clear hHeld
 refine hK.out _ _ ⟨i.o.c 0 _ rfl,i.o.c 1 _ rfl,i.o.c 2 _ rfl,i.o.c 3 _ rfl,i.o.c 4 _ rfl,i.o.c 5 _ rfl,i.o.c 6 _ rfl⟩ fun hHeld=>?_
 clear hK K
 try simp only[Lj,Lk,Lq]
 refine tkW 17 ?_
 refine wr1 18 fun K hK=>?_
 go_simp
 (with_reducible refine(all_any w124).mono ?_)
 rintro e w125 ⟨ga,za,rfl,a1,N⟩;have l:=i.o.b9 N;go_wp2_with fail;clear hHeld
 refine hK.out _ _ ⟨l.o.c 0 _ rfl,l.o.c 1 _ rfl,l.o.c 2 _ rfl,l.o.c 3 _ rfl,l.o.c 4 _ rfl,l.o.c 5 _ rfl,l.o.c 6 _ rfl⟩ fun hHeld=>?_
 clear hK K
 try simp only[Lj,Lk,Lq]
 refine tkW 19 ?_;refine tkW 20 ?_;refine tkW 21 ?_;refine tkW 22 ?_;refine wpAnyH_done (by kernel_rfl) ?_ _;go_wp2;go_ret;exact⟨ret_bool (by simp),(an.o.t N)⟩
end Go.Proofs.YtgcjmhjjpbcfmaaGreatDoor
namespace Go.Proofs.YtgcjmhjjpbcfmaaGreatDoor
open Go.RowKit Go.Fl Go.Fl.Nm Go.Fl.Lb
theorem seq_any(A:Option Addr)(n c:Nat)(B:Option Addr)(d:Nat)(l:List ByteArray)(w:World)(ha:Rd w 1 A n (l.map Value.string))(hb:Rd w 1 B n (l.map Value.string))(hn:n≤1000):
 Calls Tryz.prog 12 #[.l A n c,.l B n d] w (Ret (.b true) w):=by
 have o:=hI ha;have p:=hI hb;have q:=hI (show l.length=n by have h:=ha.1;rw[List.length_map]at h;omega);clear ha hb;have D:((n:Int)!=(n:Int))=false:=(by simp)
 go_in
 go_wp2
 go_loopg [13,5] n (fun k i i5 wr=>∃j:Nat,i= .i j∧j≤n∧k=n-j∧Hid (Below w.heap.size w wr))
 case atStart=>exact⟨0,rfl,by omega,by omega,hI (Below.refl _ _)⟩
 obtain⟨j,rfl,E,rfl,a⟩:=hrel
 by_cases hlt:j<n
 ·
  obtain⟨r,t,u,F,g⟩:=(o.o.below a.o).at_ (by omega);obtain⟨v,x,y,G,m⟩:=(p.o.below a.o).at_ (by omega);subst u y
  obtain⟨s,b⟩:∃s,l[j]? =some s:=⟨_,List.getElem?_eq_getElem (by rw[q.o];exact hlt)⟩
  have H:wr.cell? ⟨r,t+j,none⟩=some (.string s):=g j _ (by rw[List.getElem?_map,b];rfl);have I:wr.cell? ⟨v,x+j,none⟩=some (.string s):=m j _ (by rw[List.getElem?_map,b];rfl);clear g m b;have z:decide ((j:Int)<n)=true:=dT;have J:decide (j<n)=true:=decide_eq_true hlt;have L:0≤(j:Int)∧(j:Int)<n:=(by omega);have M:n≤9223372036854775807:=(by omega);go_wp2
  go_quiet (fail)
  go_wp2
  go_roundg (n-(j+1))
  case measure=>omega
  case rel=>exact⟨j+1,by go_num,by omega,rfl,hI (below_drewN a.o _)⟩
 have C:n=j:=(by omega);subst C;have z:decide ((n:Int)<n)=false:=dF;go_wp2;go_ret;exact⟨rfl,a⟩
theorem fE_ent:∀e∈ents,fE e.nm=(e,0):=by
 intro e he;unfold ents at he;simp only[List.mem_cons,List.not_mem_nil,or_false]at he
 rcases he with rfl | rfl | rfl | rfl | rfl | rfl | rfl | rfl | rfl | rfl | rfl | rfl | rfl | rfl | rfl | rfl | rfl | rfl<;>rfl
