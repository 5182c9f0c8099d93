import Derived.Test.YtgcjmhjjpbcfmaaGreatDoorRm
set_option maxHeartbeats 8000000
set_option maxRecDepth 100000
namespace Go.Proofs.YtgcjmhjjpbcfmaaGreatDoor
open Go.RowKit Go.Fl Go.Fl.Lx Go.Fl.Nm Go.Fl.Dy Go.Fl.Fm Go.Fl.Rt Go.Fl.Pa Go.Fl.Lb
theorem own_rd{w:World}{base:Nat}{e:TypeId}{size n:Nat}{v:Value}{xs:List Value}(h:w.ownsRow base e size v n xs):∃(A:Option Addr) (c:Nat),v= .l A n c∧n≤c∧c≤maxLen∧Rd w size A n xs:=by
 rcases h.2 with⟨hv,hn⟩ | ⟨g,cap,cur,hv,h2,h3,h4,h5,h6,h7⟩
 ·
  subst hn;have hx:xs=[]:=List.eq_nil_of_length_eq_zero (by have:=h.1;simpa using this);subst hx;exact⟨none,0,hv,Nat.le_refl _,by unfold maxLen;omega,rd_nil _ _⟩
 have h3':Blk w g e cur:=h3;refine⟨some ⟨g,0,none⟩,cap,hv,h4,h5,h.1,fun _=>⟨g,0,rfl,h3'.lt,fun j u hu=>?_⟩⟩;rw[Nat.zero_add,h3'.cell j];have h9:(cur.toList.take (n*size))[j]? =some u:=(by rw[h7];exact hu);rw[List.getElem?_take]at h9
 split at h9
 ·
  rw[←Array.getElem?_toList];exact h9
 cases h9
theorem Tryz.infoIv9:(Tryz.prog.info? 77).map (fun i=>(i.zero,i.size,i.bytes))=some (some (.agg #[.b false,.sn,.i 0,.b false,.sn,.i 0,.b false]),7,88):=by kernel_rfl
theorem nu_iv(q:IvN):∀u∈IvN.cl q,NU u:=by
 intro u hu x e;simp only[IvN.cl,List.mem_cons,List.not_mem_nil,or_false]at hu
 rcases hu with rfl | rfl | rfl | rfl | rfl | rfl | rfl<;>cases e
theorem one_iv(q:IvN):∀u∈IvN.cl q,u.oneCell'=true:=by
 intro u hu;simp only[IvN.cl,List.mem_cons,List.not_mem_nil,or_false]at hu
 rcases hu with rfl | rfl | rfl | rfl | rfl | rfl | rfl<;>rfl
theorem rtc_one(l:List (Int×Int)):∀u∈l.flatMap rtc,u.oneCell'=true:=by
 intro u hu;obtain⟨x,_,hx⟩:=List.mem_flatMap.1 hu;simp only[rtc,List.mem_cons,List.not_mem_nil,or_false]at hx
 rcases hx with rfl | rfl<;>rfl
theorem OwnN.lt{w:World}{base:Nat}{e:TypeId}{size n:Nat}{v:Value}{xs:List Value}(h:OwnN w base e size v n xs):∀b,v.ownBlock=some b→b<w.heap.size:=fun b hb=>by
 rcases h.2 with⟨hv,_⟩ | ⟨g,cap,cur,hv,_,h3,_⟩
 ·
  rw[hv]at hb;cases hb
 rw[hv]at hb;have e9:g=b:=Option.some.inj hb;rw[←e9];exact h3.lt
theorem OwnN.beside{w w':World}{base:Nat}{e:TypeId}{size n:Nat}{v:Value}{xs:List Value}{r:Option Nat}(h:OwnN w base e size v n xs)(hg:w.grownBy w' r)(hlt:∀b,r=some b→b<base):OwnN w' base e size v n xs:=⟨h.1,by
 rcases h.2 with h | ⟨g,cap,cur,h1,h2,h3,h4⟩
 ·
  exact .inl h
 exact .inr ⟨g,cap,cur,h1,h2,(hg.block g h3.lt (fun q=>by have:=hlt g q.symm;omega)).trans h3,h4⟩⟩
def KnP(out:List Iv)(B:Nat)(v:Value)(er:Int)(qs:List IvN)(w':World):Prop:=
  (out.any Iv.all=true∧v= .sn∧er=11∧qs=[])∨(out.any Iv.all=false∧er=0∧OwnN w' B 77 7 v out.length (qs.flatMap IvN.cl)∧(∀z∈qs,InI w' z)∧qs.map IvN.x=out)
def KnQ(out:List Iv)(w:World)(e:Ending)(w':World):Prop:=∃(v:Value) (er:Int) (qs:List IvN),e= .returned (.tuple #[v,.i er])∧Hid (KnP out w.heap.size v er qs w')∧Hid (Below w.heap.size w w')
theorem decl_one(l:List DcN):∀u∈l.flatMap DcN.cells,u.oneCell'=true:=by
 intro u hu;obtain⟨x,_,hx⟩:=List.mem_flatMap.1 hu;simp only[DcN.cells,List.mem_cons,List.not_mem_nil,or_false]at hx
 rcases hx with rfl | rfl | rfl | rfl | rfl<;>rfl
theorem known_yes(ap:Int→Int→Iv→Iv→Int→Iv)(f:Nat)(s:ByteArray)(A:Option Addr)(n c:Nat)(xs:List (Int×Int))(B:Option Addr)(m d:Nat)(ps:List (Int×Int))(t:Int×Int)(p:Int)(w:World)(hx:InL 2 rtc R64 w A n c xs)(hp:InL 2 rtc R64 w B m d ps)(ht:R64 w t)(hR:RX w)(hX:FX w)
 (hfe:(fE s.data.toList).2=0) (hkn:(fE s.data.toList).1.kn≠[]) (hl1:xs.length=(pO s.data.toList).st.length) (hl2:ps.length=(pO s.data.toList).pa.length) (hb1:xs.any (fun q=> !vB q.1 q.2)=false) (hb2:ps.any (fun q=> !vB q.1 q.2)=false) (hb3:vB t.1 t.2=true) (hp1:8≤p) (hp2:p≤512) (ht0:0≤t.1) (hlen:n+m≤199) (hout:OutOK ap s.data.toList (xs++ps++[t]) p f) (hb9:(fE s.data.toList).2=0→pbE (fE s.data.toList).1.tx=0∧(fE s.data.toList).1.tx.length≤400):
 Calls Tryz.prog 17 #[.string s,.l A n c,.l B m d,.agg #[.i t.1,.i t.2],.i p] w (KnQ (outV ap s.data.toList (xs++ps++[t]) p f) w):=by
 obtain⟨L,hL⟩:=eX (s.data.toList);have HS:=hI hL.symm;rw[←hL]at hfe hkn hl1 hl2 hout hb9 ⊢;have I:=hI hb9;obtain⟨bi,bv⟩:=eX (outV ap L (xs++ps++[t]) p f);rw[←bv];have ey:=hI bv;have c5:=hI hout;have c8:=hI (show 8≤p∧p≤512 from⟨hp1,hp2⟩);have c9:=hI hx;have da:=hI hp;have db:=hI ht;have HR:=hI hR;have HX:=hI hX;have bw:=hI hfe;have e4:=hI hkn;have e5:=hI hl1;have e6:=hI hl2;have e7:=hI hb1;have e8:=hI hb2;have e9:=hI (show(!vB t.1 t.2)=false by rw[hb3];rfl);have dc:=hI hx.hl;have dd:=hI hp.hl;have d1:decide (p<8)=false:=dF;have d2:decide (512<p)=false:=dF;have d3:decide (t.1<0)=false:=dF;clear hx hp ht hR hX hfe hkn hl1 hl2 hb1 hb2 hb3 hL ht0 bv hout hp1 hp2 hb9;have fa:=hI (Below.refl w.heap.size w)
 go_in
 go_upto_region 1 with(fail);generalize l:World.alloc _ _=ww1;obtain⟨E,fb⟩:=gn1 l;clear l;have fc:=fa.o.t E;have fd:=hI (c9.o.below (fun z _ hz=>hz.any) E.o);have fe:=hI (da.o.below (fun z _ hz=>hz.any) E.o);have de:=HR.o.b9 E;have df:=HX.o.b9 E;go_wp2_with fail;refine(lproblem_any s ww1 de.o df.o (by rw[HS.o];exact I.o)).mono ?_;rw[HS.o];rintro e ww2 ⟨v,rfl,HV,az⟩;have fg:=fc.o.t az;have fh:=hI (fd.o.below (fun z _ hz=>hz.any) az.o);have fi:=hI (fe.o.below (fun z _ hz=>hz.any) az.o);rw[bw.o];go_upto_region 2 with(fail);generalize l:World.alloc _ _=ww3;obtain⟨S,fj⟩:=gn1 l;clear l;have fk:=fg.o.t S;have fl:=hI (fh.o.below (fun z _ hz=>hz.any) S.o);have fm:=hI (fi.o.below (fun z _ hz=>hz.any) S.o);go_wp2_with fail;refine(get_any s ww3).mono ?_;rw[HS.o];rintro e ww4 ⟨x,rfl,bj,HK,ak⟩;have fo:=fk.o.t ak;have fp:=hI (fl.o.below (fun z _ hz=>hz.any) ak.o);have fq:=hI (fm.o.below (fun z _ hz=>hz.any) ak.o);rw[bw.o];go_upto_region 5 with(fail);generalize l:World.alloc _ _=ww5;obtain⟨Y,dg⟩:=gn1 l;clear l;have fr:=fo.o.t Y;have dh:=hI (fp.o.below (fun z _ hz=>hz.any) Y.o);have fs:=hI (fq.o.below (fun z _ hz=>hz.any) Y.o);have di:=hI ((((fb.o.belowW az.o).belowW S.o).belowW ak.o).belowW Y.o);have a3:=hI (((HV.o.belowW S.o).belowW ak.o).belowW Y.o);have dj:=hI ((fj.o.belowW ak.o).belowW Y.o);have dk:=hI (HK.o.below Y.o)
 have bx:=hI (show v.n=n by
  have D:=a3.o.z.hs.il.hl;have G:=congrArg (fun q=>q.st.length) a3.o.pl;simp only[PbN.pl,List.length_map]at G;have h3:=e5.o;have h4:=dc.o
  omega)
 have b1:=hI (show v.m=m by
  have D:=a3.o.z.hp.il.hl;have G:=congrArg (fun q=>q.pa.length) a3.o.pl;simp only[PbN.pl,List.length_map]at G;have h3:=e6.o;have h4:=dd.o
  omega)
 have ip:x.n≠0:=fun h=>e4.o (by
  have D:=congrArg En.kn bj.o;rw[←D];have G:=dk.o.r.1;rw[h,Nat.zero_mul,List.length_map]at G
  show x.kn.map _=[]
  rw[List.eq_nil_of_length_eq_zero G]
  rfl)
 have e1:((x.n:Int)==0)=false:=(by rw[beq_eq_false_iff_ne];omega);have e2:((n:Int)!=(v.n:Int))=false:=(by rw[bx.o];simp);have e3:((m:Int)!=(v.m:Int))=false:=(by rw[b1.o];simp);obtain⟨Z,aa,ab,ac,T,ad⟩:=dg.o.all3;have cp:=dj.o.cell;have ct:=di.o.cell;go_wp2_with fail;refine(badc_any A n c xs ww5 dh.o).mono ?_;rw[e7.o];rintro e ww6 ⟨rfl,U⟩;have ft:=fr.o.t U;have fu:=hI (dh.o.below (fun z _ hz=>hz.any) U.o);have dl:=hI (fs.o.below (fun z _ hz=>hz.any) U.o);have dm:=di.o.b9 U;have dn:=dj.o.b9 U;have dp:=dg.o.b9 U;clear Z aa ab ac T ad cp ct;obtain⟨Z,aa,ab,ac,T,ad⟩:=dp.o.all3;have cp:=dn.o.cell;have ct:=dm.o.cell;go_wp2_with fail;refine(badc_any B m d ps ww6 dl.o).mono ?_;rw[e8.o];rintro e ww7 ⟨rfl,V⟩;have fv:=ft.o.t V;have fw:=hI (fu.o.below (fun z _ hz=>hz.any) V.o);have fx:=hI (dl.o.below (fun z _ hz=>hz.any) V.o);have dq:=dm.o.b9 V;have dr:=dn.o.b9 V;have ds:=dp.o.b9 V;clear Z aa ab ac T ad cp ct;obtain⟨Z,aa,ab,ac,T,ad⟩:=ds.o.all3;have cp:=dr.o.cell;have ct:=dq.o.cell;go_wp2_with fail;refine(bad1_any t ww7 db.o.any).mono ?_;rw[e9.o];rintro e ww8 ⟨rfl,W⟩;have fy:=fv.o.t W;have fz:=hI (fw.o.below (fun z _ hz=>hz.any) W.o);have f5:=hI (fx.o.below (fun z _ hz=>hz.any) W.o);have dt:=dq.o.b9 W;have du:=ds.o.b9 W;clear Z aa ab ac T ad cp ct;obtain⟨Z,aa,ab,ac,T,ad⟩:=du.o.all3;have cp:=(dr.o.belowW W.o).cell;have ct:=dt.o.cell;go_wp2_with fail;generalize l:World.alloc _ _=ww9;obtain⟨I,f6⟩:=gn1 l;clear l;have f7:=fy.o.t I;have f8:=hI (fz.o.below (fun z _ hz=>hz.any) I.o);have f9:=hI (f5.o.below (fun z _ hz=>hz.any) I.o);have b2:=hI ((((a3.o.belowW U.o).belowW V.o).belowW W.o).belowW I.o);clear Z aa ab ac T ad cp ct
 have ga:=hI (show InL 1 SlsN.cells (InSl 5) ww9 (some ⟨ww8.heap.size,0,none⟩) 2 2 [⟨v.A,v.n,v.c,v.st.flatMap DcN.cells⟩,⟨v.B,v.m,v.d,v.pa.flatMap DcN.cells⟩]from
  ⟨rfl,Nat.le_refl _,by unfold maxLen;omega,rd_blk f6.o rfl,fun z hz=>by
   simp only[List.mem_cons,List.not_mem_nil,or_false]at hz
   rcases hz with rfl | rfl
   ·
    exact⟨b2.o.z.hs.il.hr,decl_one _⟩
   exact⟨b2.o.z.hp.il.hr,decl_one _⟩⟩)
 have au:sumN [⟨v.A,v.n,v.c,v.st.flatMap DcN.cells⟩,⟨v.B,v.m,v.d,v.pa.flatMap DcN.cells⟩]=n+m:=(by unfold sumN;simp[bx.o,b1.o]);refine(concat_D (some ⟨ww8.heap.size,0,none⟩) 2 2 _ ww9 ga.o (by rw[au];omega)).mono ?_;rintro e ww10 ⟨v2,rfl,dv,af⟩;have gb:=f7.o.t af;have gc:=hI (f8.o.below (fun z _ hz=>hz.any) af.o);have gd:=hI (f9.o.below (fun z _ hz=>hz.any) af.o);have dw:=hI (((((((((de.o.belowW az.o).belowW S.o).belowW ak.o).belowW Y.o).belowW U.o).belowW V.o).belowW W.o).belowW I.o).belowW af.o);have b3:=b2.o.b9 af;rw[au]at dv;clear au;obtain⟨A2,c2,gg,dx,dy,dz⟩:=own_rd dv.o;subst gg;have b4:=hI (show InL 5 DcN.cells (fun _ _=>True) ww10 A2 (n+m) c2 (v.st++v.pa)from⟨by have D:=b3.o.z.hs.il.hl;have G:=b3.o.z.hp.il.hl;have h3:=bx.o;have h4:=b1.o;rw[List.length_append];omega,dx,dy,by rw[List.flatMap_append];simpa using dz,fun _ _=>trivial⟩);clear dx dy dz;obtain⟨N,hN⟩:=eX (n+m);rw[←hN]at b4 ⊢;have iu:N≤199:=(by omega);have gh:=hI hN;clear hN;have gi:=hI b4.o.hl;go_wp2
 go_loopg [97,17] N (fun k i v3 wr=>∃j:Nat,i= .i j∧j≤N∧k=N-j∧Hid (OwnN wr ww10.heap.size 9 1 v3 j (((v.st++v.pa).take j).map (fun z=>Value.string z.s)))∧Hid (Below ww10.heap.size ww10 wr))
 case atStart=>exact⟨0,rfl,by omega,by omega,hI (OwnN.nil _ _ _ _),hI (Below.refl _ _)⟩
 obtain⟨j,rfl,hj,rfl,HO,o⟩:=hrel;have a4:=o.o.size
 by_cases hlt:j<N
 case pos=>
  obtain⟨b9,o9,y,hA,a7,_,av⟩:=InL.at_ (cells:=DcN.cells) (fun z=>rfl) (b4.o.below (fun _ _ _=>trivial) o.o) j hlt;subst hA;have a8:=hI (take_snocA _ j y a7);obtain⟨b7,c0,c1,b8,c3,c4⟩:=DcN.cells_at av;clear a7 av;have n1:decide ((j:Int)<N)=true:=dT;have d4:decide (j<N)=true:=decide_eq_true hlt;have d5:0≤(j:Int)∧(j:Int)<N:=(by omega);have iv:N≤9223372036854775807:=(by omega);go_upto_region 17 with(fail);obtain⟨w1,l,E,FX⟩:=aX wr 54 #[.string y.s,.i y.a,.i y.b,.i y.c,.i y.d];rw[←l];clear l b7 c0 c1 b8 c3 c4;obtain⟨c0,f0,c1,f1,b8,f2,c3,f3,c4,f4⟩:=FX.o.all5;have al:=hI (E.o.trans ((below_box w1 (.cells #[.string y.s] 9)).mono E.o.size));have X:=HO.o.b9 al;have am:=hI (o.o.trans (al.o.mono a4));have an:=am.o.size;obtain⟨i0,J,O,P,Q⟩:=info_parts Tryz.infoStr9
  go_wp2_with (at_builtin;refine wpList_append_nu rfl _ _ _ rfl ww10.heap.size 9 i0 _ 1 16 Tryz.underlying23 J O P Q rfl (by omega) _ _ _ rfl X.o w1.heap.size _ [.string y.s] rfl rfl (show Blk (w1.alloc (.cells #[.string y.s] 9)) w1.heap.size 9 [Value.string y.s].toArray from Blk.new _ _ _) (by simp[Value.oneCell']) (by omega) (by omega) an (nu_str _) (nu_str _) ?_)
  intro F w9 hown9 hgr9;have bb:=hI (show OwnN w9 ww10.heap.size 9 1 F (j+1) (((v.st++v.pa).take (j+1)).map (fun z=>Value.string z.s))by rw[a8.o,List.map_append];simpa using hown9);have bc:=hI (below_own am.o hgr9 X.o.own);clear hown9 hgr9 J O P Q c0 f0 c1 f1 b8 f2 c3 f3 c4 f4;go_wp2
  go_roundg (N-(j+1))
  case measure=>omega
  case rel=>exact⟨j+1,by go_num,by omega,rfl,bb,bc⟩
 have bd:N=j:=(by omega);subst bd;have d6:=HO;rw[List.take_of_length_le (show(v.st++v.pa).length≤N by rw[gi.o];omega)]at d6;clear HO;have n1:decide ((N:Int)<N)=false:=dF;have gm:=hI (gc.o.below (fun z _ hz=>hz.any) o.o);have gn:=hI (gd.o.below (fun z _ hz=>hz.any) o.o);go_upto_region 19 with(fail);have ct:=(((dt.o.belowW I.o).belowW af.o).belowW o.o).cell;go_wp2_with fail;generalize l:World.alloc _ _=ww12;obtain⟨al,go,gp⟩:=gn2 l;clear l;have gq:=hI (gm.o.below (fun z _ hz=>hz.any) al.o);have gr:=hI (gn.o.below (fun z _ hz=>hz.any) al.o);have gs:=o.o.t al;clear ct
 have gt:=hI (show InL 1 SlsN.cells (InSl 2) ww12 (some ⟨wr.heap.size+1,0,none⟩) 3 3 [⟨A,n,c,xs.flatMap rtc⟩,⟨B,m,d,ps.flatMap rtc⟩,⟨some ⟨wr.heap.size,0,none⟩,1,1,[t].flatMap rtc⟩]from
  ⟨rfl,Nat.le_refl _,by unfold maxLen;omega,rd_blk gp.o rfl,fun z hz=>by
   simp only[List.mem_cons,List.not_mem_nil,or_false]at hz
   rcases hz with rfl | rfl | rfl
   ·
    exact⟨gq.o.hr,rtc_one _⟩
   ·
    exact⟨gr.o.hr,rtc_one _⟩
   exact⟨rd_blk go.o rfl,rtc_one _⟩⟩)
 have au:sumN [⟨A,n,c,xs.flatMap rtc⟩,⟨B,m,d,ps.flatMap rtc⟩,⟨some ⟨wr.heap.size,0,none⟩,1,1,[t].flatMap rtc⟩]=n+m+1:=(by unfold sumN;simp;omega);refine(concat_R (some ⟨wr.heap.size+1,0,none⟩) 3 3 _ ww12 gt.o (by rw[au];omega)).mono ?_;rintro e ww13 ⟨v4,rfl,d7,ay⟩;have gu:=hI (((dw.o.belowW o.o).belowW al.o).belowW ay.o);have d8:=gs.o.t ay;have d9:=hI ((d6.o.belowW al.o).belowW ay.o);rw[au]at d7;clear au;obtain⟨A4,c4,gw,ea,eb,ec⟩:=own_rd d7.o;subst gw
 have bk:=hI (show InL 2 rtc R64 ww13 A4 (n+m+1) c4 (xs++ps++[t])from⟨by have h3:=dc.o;have h4:=dd.o;rw[List.length_append,List.length_append];simp;omega,ea,eb,by rw[List.flatMap_append,List.flatMap_append];simpa using ec,fun z hz=>by
  rcases List.mem_append.1 hz with hz | hz
  ·
   rcases List.mem_append.1 hz with hz | hz
   ·
    exact(c9.o.hi z hz).any
   exact(da.o.hi z hz).any
  rw[List.mem_singleton.1 hz];exact db.o.any⟩)
 clear ea eb ec;obtain⟨M,hM⟩:=eX (n+m+1);rw[←hM]at bk ⊢;have ix:M≤200:=(by omega);have gx:=hI hM;clear hM;have ce:=hI bk.o.hl;obtain⟨rs,cf⟩:=eX (xs++ps++[t]);rw[←cf]at bk ce;have ed:=hI cf;clear cf;go_wp2
 go_loopg [114,18] M (fun k i v5 wr=>∃(j:Nat) (H:List IvN),i= .i j∧j≤M∧k=M-j∧Hid (OwnN wr ww13.heap.size 77 7 v5 j (H.flatMap IvN.cl))∧Hid (∀z∈H,InI wr z)∧Hid (H.map IvN.x=(rs.take j).map (fun q=>enV q.1 q.2 p))∧Hid (Below ww13.heap.size ww13 wr))
 case atStart=>exact⟨0,[],rfl,by omega,by omega,hI (OwnN.nil _ _ _ _),hI (fun z h=>absurd h (by simp)),hI rfl,hI (Below.refl _ _)⟩
 obtain⟨j,H,rfl,hj,rfl,HO,ee,bl,o⟩:=hrel;have a4:=o.o.size
 by_cases hlt:j<M
 case pos=>
  obtain⟨b9,o9,y,hA,a7,ef,av⟩:=InL.at_ (cells:=rtc) (fun z=>rfl) (bk.o.below (fun z _ hz=>hz.any) o.o) j hlt;subst hA;have a8:=hI (take_snocA rs j y a7);have bm:=hI ef;have b7:=av.lt;have c0:wr.cell? ⟨b9,o9+j*2,none⟩=some (.i y.1):=av.c 0 _ rfl;have c1:wr.cell? ⟨b9,o9+j*2+1,none⟩=some (.i y.2):=av.c 1 _ rfl;clear a7 ef av;have n1:decide ((j:Int)<M)=true:=dT;have d4:decide (j<M)=true:=decide_eq_true hlt;have d5:0≤(j:Int)∧(j:Int)<M:=(by omega);have iy:M≤9223372036854775807:=(by omega);go_upto_region 22 with(fail);obtain⟨w1,l,E,FX⟩:=aX wr 42 #[.i y.1,.i y.2];rw[←l];clear l b7 c0 c1;obtain⟨c0,f0,c1,f1⟩:=FX.o.all2;go_wp2_with fail;refine(ienclose_any y.1 y.2 p w1 (gu.o.toRB.below (o.o.trans (E.o.mono a4))) bm.o.n1 bm.o.n2 bm.o.d1 bm.o.d2).mono ?_
  rintro e w2 ⟨q,rfl,HQ,ch,eg⟩;have S:=hI (below_box w2 (.cells #[.b q.x.lo.neg,.l q.A q.n q.c,.i q.x.lo.e,.b q.x.hi.neg,.l q.B q.m q.d,.i q.x.hi.e,.b q.x.all] 77));have ay:=hI ((E.o.trans (eg.o.mono E.o.size)).trans (S.o.mono (E.o.trans (eg.o.mono E.o.size)).size));have X:=HO.o.b9 ay;have am:=hI (o.o.trans (ay.o.mono a4));have an:=am.o.size;have be:=nu_iv q;have bf:=nu_iv ze9;have bg:∀u∈IvN.cl q,u.oneCell'=true:=one_iv q;clear c0 f0 c1 f1;obtain⟨i0,J,O,P,Q⟩:=info_parts Tryz.infoIv9
  go_wp2_with (at_builtin;refine wpList_append_nu rfl _ _ _ rfl ww13.heap.size 77 i0 _ 7 88 Tryz.underlying68 J O P Q rfl (by omega) _ _ _ rfl X.o w2.heap.size _ (IvN.cl q) rfl rfl (show Blk (w2.alloc (.cells #[.b q.x.lo.neg,.l q.A q.n q.c,.i q.x.lo.e,.b q.x.hi.neg,.l q.B q.m q.d,.i q.x.hi.e,.b q.x.all] 77)) w2.heap.size 77 (IvN.cl q).toArray from Blk.new _ _ _) bg (by omega) (by omega) an be bf ?_)
  intro F w9 hown9 hgr9;have bb:=hI (show OwnN w9 ww13.heap.size 77 7 F (j+1) ((H++[q]).flatMap IvN.cl)by rw[List.flatMap_append];simpa using hown9);have bc:=hI (below_own am.o hgr9 X.o.own)
  have ci:=hI (show ∀z∈H++[q],InI w9 z from fun z hz=>X.o.ini hgr9 (by
   rcases List.mem_append.1 hz with hz | hz
   ·
    exact(ee.o z hz).belowW ay.o
   rw[List.mem_singleton.1 hz];exact ch.o.belowW S.o))
  have cj:=hI (show(H++[q]).map IvN.x=(rs.take (j+1)).map (fun q=>enV q.1 q.2 p)by rw[a8.o,List.map_append,List.map_append,bl.o];simp[HQ.o]);clear hown9 hgr9 J O P Q be bf bg;go_wp2
  go_roundg (M-(j+1))
  case measure=>omega
  case rel=>exact⟨j+1,H++[q],by go_num,by omega,rfl,bb,ci,cj,bc⟩
 have bd:M=j:=(by omega);subst bd;rw[List.take_of_length_le (show rs.length≤M by rw[ce.o];omega)]at bl;have n1:decide ((M:Int)<M)=false:=dF;go_upto_region 24 with(fail);have ai:=hI (below_box wr (.cells #[.string ⟨#[116]⟩] 9));have ck:=hI ((d9.o.belowW o.o).belowW ai.o);have gy:=hI (show Below ww10.heap.size ww10 wr from(d8.o.trans (o.o.mono d8.o.size)));have eh:=gy.o.t ai;have an:=eh.o.size;obtain⟨i0,J,O,P,Q⟩:=info_parts Tryz.infoStr9
 go_wp2_with (at_builtin;refine wpList_append_nu rfl _ _ _ rfl ww10.heap.size 9 i0 _ 1 16 Tryz.underlying23 J O P Q rfl (by omega) _ _ _ rfl ck.o wr.heap.size _ [.string ⟨#[116]⟩] rfl rfl (show Blk (wr.alloc (.cells #[.string ⟨#[116]⟩] 9)) wr.heap.size 9 [Value.string ⟨#[116]⟩].toArray from Blk.new _ _ _) (by simp[Value.oneCell']) (by omega) (by omega) an (nu_str _) (nu_str _) ?_)
 intro F w9 hown9 hgr9;have gz:=hI hown9;have g0:=hI ((HO.o.belowW ai.o).beside hgr9 (OwnN.lt d9.o));have ci:=hI (show ∀z∈H,InI w9 z from fun z hz=>ck.o.ini hgr9 ((ee.o z hz).belowW ai.o));have a1:=hI (below_own eh.o hgr9 ck.o.own);clear hown9 hgr9 J O P Q an;have cm:=gb.o.t a1;obtain⟨A6,c6,g1,ei,ej,_,ek⟩:=gz.o.rd;subst g1
 have g2:=hI (show Rd w9 1 A6 (N+1) ((nsO L).map Value.string)by
  rw[←nsO_of (b3.o.belowW a1.o).pl];simp only[List.map_append,List.map_map,List.append_assoc,List.map_cons,List.map_nil]
  exact ek)
 obtain⟨A7,c7,g3,el,em,_,en⟩:=g0.o.rd;subst g3;have g4:M=N+1:=(by have D:=gx.o;have G:=gh.o;omega);subst g4;have g5:=hI (show InL 7 IvN.cl InI w9 A7 (N+1) c7 H from⟨by have D:=congrArg List.length bl.o;rw[List.length_map,List.length_map,ce.o]at D;exact D,el,em,en,ci.o⟩);have eo:=hI (show N+1≤c6∧c6≤maxLen from⟨ei,ej⟩);clear ei ej ek el em en
 obtain⟨vl,cs⟩:∃g:ByteArray→Iv,g=fun k=>evV ap ((nsO L).zip (rs.map fun q=>enV q.1 q.2 p)) p f (exT k.data.toList):=⟨_,rfl⟩
 have g6:=hI cs
 have cu:=hI (show bi=x.kn.map vl by
  rw[ey.o,cs];unfold outV;rw[←bj.o,←ed.o]
  exact List.map_map)
 clear cs;obtain⟨XA,cv⟩:=eX (x.A);obtain⟨C,cw⟩:=eX (x.n);have ep:=hI (show Rd w9 1 XA C (x.kn.map Value.string)by rw[cv,cw];exact((((((dk.o.below U.o).below V.o).below W.o).below I.o).below af.o).below a1.o).r);have bo:=hI (show x.kn.length=C by have D:=ep.o.1;rw[List.length_map]at D;omega)
 have g8:=hI (show C≤2 by
  have hm:=fE_mem bw.o;have D:=kn_len _ hm;rw[←bj.o]at D;have G:(x.kn.map fun s=>s.data.toList).length≤2:=D;rw[List.length_map,bo.o]at G
  exact G)
 have ha:=hI (show ∀k∈x.kn,exE k.data.toList=0∧okE (exT k.data.toList)=true∧k.data.toList.length≤400∧EvV ap ((nsO L).zip (rs.map fun q=>enV q.1 q.2 p)) f (exT k.data.toList)from fun k hk=>by
  rw[ed.o]
  exact c5.o.2 _ (by rw[←bj.o];exact List.mem_map_of_mem hk))
 have eq:=hI (show((nsO L).zip H).map tl9=(nsO L).zip (rs.map fun q=>enV q.1 q.2 p)by rw[zip_tl,bl.o]);obtain⟨Z,aa,ab,ac,T,ad⟩:=(((du.o.belowW I.o).belowW af.o).belowW a1.o).all3;rw[←cv,←cw]at T;clear cv cw;go_wp2
 go_loopg [131,23] C (fun k i v5 wr=>∃(j:Nat) (R:List IvN),i= .i j∧j≤C∧k=C-j∧Hid (OwnN wr w9.heap.size 77 7 v5 j (R.flatMap IvN.cl))∧Hid (∀z∈R,InI wr z)∧Hid (R.map IvN.x=(x.kn.take j).map vl)∧Hid (∀z∈R,z.x.all=false)∧Hid (Below w9.heap.size w9 wr))
 case atStart=>exact⟨0,[],rfl,by omega,by omega,hI (OwnN.nil _ _ _ _),hI (fun z h=>absurd h (by simp)),hI rfl,hI (fun z h=>absurd h (by simp)),hI (Below.refl _ _)⟩
 obtain⟨j,R,rfl,hj,rfl,HO,er,bp,es,o⟩:=hrel;have a4:=o.o.size
 by_cases hlt:j<C
 case neg=>
  have bd:C=j:=(by omega);subst bd;rw[List.take_of_length_le (show x.kn.length≤C by rw[bo.o];omega),←cu.o]at bp;have n1:decide ((C:Int)<C)=false:=dF;have hb:=hI cm.o.size
  have cx:=hI (show bi.any Iv.all=false by
   rw[←bp.o,List.any_map,List.any_eq_false];intro z hz
   simp[es.o z hz])
  have hc:=hI (show bi.length=C by rw[cu.o,List.length_map,bo.o]);go_wp2
  go_ret2
  exact⟨_,_,R,rfl,hI (.inr ⟨cx.o,rfl,by rw[hc.o];exact HO.o.weaken hb.o,er.o,bp.o⟩),(cm.o.t o)⟩
 obtain⟨k9,bh⟩:∃k9,x.kn[j]? =some k9:=⟨_,List.getElem?_eq_getElem (by rw[bo.o];exact hlt)⟩
 obtain⟨b9,o9,hd,hb9,et⟩:=(ep.o.below o.o).at_ (by omega);subst hd;have c0:wr.cell? ⟨b9,o9+j,none⟩=some (.string k9):=et j _ (by rw[List.getElem?_map,bh];rfl);have bq:=hI (ha.o k9 (List.mem_of_getElem? bh));have a8:=hI (take_snocA x.kn j k9 bh);have he:=hI bh;have hf:=hI (show vl k9=evV ap ((nsO L).zip (rs.map fun q=>enV q.1 q.2 p)) p f (exT k9.data.toList)by rw[g6.o]);clear bh et;have hg:k9.size≤maxLen:=(by have D:=bq.o.2.2.1;rw[Array.length_toList]at D;have G:k9.size=k9.data.size:=rfl;unfold maxLen;omega);have n1:decide ((j:Int)<C)=true:=dT;have d4:decide (j<C)=true:=decide_eq_true hlt;have d5:0≤(j:Int)∧(j:Int)<C:=(by omega);have iz:C≤2:=g8.o;have hh:=cm.o.t o;have eu:=hI ((dw.o.belowW a1.o).belowW o.o);have hn:=hI (g5.o.below (fun z _ hz=>hz.belowW o.o) o.o);clear Z aa ab ac T ad;go_wp2_with fail;refine(pExpr_t k9 wr hg eu.o (((((((((((df.o.belowW az.o).belowW S.o).belowW ak.o).belowW Y.o).belowW U.o).belowW V.o).belowW W.o).belowW I.o).belowW af.o).belowW a1.o).belowW o.o)).mono ?_;rintro e ww17 ⟨F,ln,co,rfl,aq,ho⟩;have hq:=hh.o.t aq;have hu:=hI (hn.o.below (fun z _ hz=>hz.belowW aq.o) aq.o);have hv:=hI (fun z hz=>(er.o z hz).belowW aq.o);have hw:=o.o.t aq;clear c0 hb9;rw[show((exE k9.data.toList:Nat):Int)=0 from by rw[bq.o.1];rfl];go_upto_region 30 with(fail);generalize l:World.alloc _ _=ww18;obtain⟨aj,hy,_⟩:=gn2 l;clear l;have h0:=hq.o.t aj;have h5:=hI (fun z hz=>(hv.o z hz).belowW aj.o);have h6:=hw.o.t aj;have h7:=hy.o.cell;go_wp2_with fail;refine((show Calls Tryz.prog 44 #[.agg #[.i F.h.kind,.i F.h.n,.i F.h.d,.string F.h.name,.i F.h.k,.l F.A F.len F.cap],.l A6 (N+1) c6,.l A7 (N+1) c7,.i p] ww18 _ from value_any ap p f (exT k9.data.toList) F (nsO L) H A6 A7 (N+1) c6 c7 ww18 (ho.o.belowW aj.o).toE (((g2.o.below o.o).below aq.o).below aj.o) eo.o.1 eo.o.2 (hu.o.below (fun z _ hz=>hz.belowW aj.o) aj.o) (by omega) c5.o.1 ((eu.o.belowW aq.o).belowW aj.o).toRB bq.o.2.1 c8.o.1 c8.o.2 (EvV.ok (by rw[eq.o];exact bq.o.2.2.2)))).mono ?_;rintro e ww19 ⟨q,rfl,HQ,ch,br⟩;have h8:=h0.o.t br;have h9:=hI (fun z hz=>(h5.o z hz).belowW br.o);have ia:=h6.o.t br;clear h7;have ev:=hI (show vl k9=q.x by rw[hf.o,HQ.o,evF_V,eq.o])
 cases hal:q.x.all with
 | true=>
  go_upto_region 31 with(fail);generalize l:World.alloc _ _=ww20;obtain⟨ib,ic⟩:=gn1 l;clear l;have cy:=ic.o.cell
  have cx:=hI (show bi.any Iv.all=true by
   rw[cu.o,List.any_map,List.any_eq_true]
   exact⟨k9,List.mem_of_getElem? (show x.kn[j]? =some k9 from he.o),by show(vl k9).all=true;rw[ev.o];exact hal⟩)
  go_wp2
  go_ret2
  exact⟨_,_,[],rfl,hI (.inl ⟨cx.o,rfl,rfl,rfl⟩),(h8.o.t ib)⟩
 | false=>
  have ew:=hI hal;go_upto_region 31 with(fail);generalize l:World.alloc _ _=ww21;obtain⟨bs,ex⟩:=gn1 l;clear l;have id:=hI (fun z hz=>(h9.o z hz).belowW bs.o);have ie:=ia.o.t bs;have cy:=ex.o.cell;clear hal;go_upto_region 33 with(fail)
  clear cy;have cy:=ex.o.cell;have ai:=hI (below_box ww21 (.cells #[.b q.x.lo.neg,.l q.A q.n q.c,.i q.x.lo.e,.b q.x.hi.neg,.l q.B q.m q.d,.i q.x.hi.e,.b false] 77));have X:=hI (((((HO.o.belowW aq.o).belowW aj.o).belowW br.o).belowW bs.o).belowW ai.o);have ig:=hI (show Blk (ww21.alloc (.cells #[.b q.x.lo.neg,.l q.A q.n q.c,.i q.x.lo.e,.b q.x.hi.neg,.l q.B q.m q.d,.i q.x.hi.e,.b false] 77)) ww21.heap.size 77 (IvN.cl q).toArray by rw[show IvN.cl q=[.b q.x.lo.neg,.l q.A q.n q.c,.i q.x.lo.e,.b q.x.hi.neg,.l q.B q.m q.d,.i q.x.hi.e,.b false]by unfold IvN.cl;rw[ew.o]];exact Blk.new _ _ _);have am:=ie.o.t ai;have an:=am.o.size;have be:=nu_iv q;have bf:=nu_iv ze9;have bg:∀u∈IvN.cl q,u.oneCell'=true:=one_iv q;obtain⟨i0,J,O,P,Q⟩:=info_parts Tryz.infoIv9
  go_wp2_with (at_builtin;refine wpList_append_nu rfl _ _ _ rfl w9.heap.size 77 i0 _ 7 88 Tryz.underlying68 J O P Q rfl (by omega) _ _ _ rfl X.o ww21.heap.size _ (IvN.cl q) rfl rfl ig.o bg (by omega) (by omega) an be bf ?_)
  intro v8 w8 hown8 hgr8;have bb:=hI (show OwnN w8 w9.heap.size 77 7 v8 (j+1) ((R++[q]).flatMap IvN.cl)by rw[List.flatMap_append];simpa using hown8);have bc:=hI (below_own am.o hgr8 X.o.own)
  have ii:=hI (show ∀z∈R++[q],InI w8 z from fun z hz=>X.o.ini hgr8 (by
   rcases List.mem_append.1 hz with hz | hz
   ·
    exact(id.o z hz).belowW ai.o
   rw[List.mem_singleton.1 hz];exact(ch.o.belowW bs.o).belowW ai.o))
  have cj:=hI (show(R++[q]).map IvN.x=(x.kn.take (j+1)).map vl by rw[a8.o,List.map_append,List.map_append,bp.o];simp[ev.o])
  have ij:=hI (show ∀z∈R++[q],z.x.all=false from fun z hz=>by
   rcases List.mem_append.1 hz with hz | hz
   ·
    exact es.o z hz
   rw[List.mem_singleton.1 hz];exact ew.o)
  clear hown8 hgr8 J O P Q be bf bg;go_wp2
  go_roundg (C-(j+1))
  case measure=>omega
  case rel=>exact⟨j+1,R++[q],by go_num,by omega,rfl,bb,ii,cj,ij,bc⟩
