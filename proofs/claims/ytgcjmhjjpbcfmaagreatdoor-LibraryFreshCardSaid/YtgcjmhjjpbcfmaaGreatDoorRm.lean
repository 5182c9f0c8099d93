import Derived.Test.YtgcjmhjjpbcfmaaGreatDoorRl
set_option linter.unusedVariables false
set_option linter.unusedSimpArgs false
set_option maxHeartbeats 4000000
set_option maxRecDepth 100000
namespace Go.Proofs.YtgcjmhjjpbcfmaaGreatDoor
open Go.RowKit Go.Fl Go.Fl.Nm Go.Fl.Dy Go.Fl.Rt Go.Fl.Lb
def rtc(q:Int×Int):List Value:=[.i q.1,.i q.2]
structure R64 (w:World) (q:Int×Int):Prop where
  n1: -9223372036854775808≤q.1
  n2:q.1≤9223372036854775807
  d1: -9223372036854775808≤q.2
  d2:q.2≤9223372036854775807
theorem R64.any{w w':World}{q:Int×Int}(h:R64 w q):R64 w' q:=⟨h.n1,h.n2,h.d1,h.d2⟩
theorem bad1_any(q:Int×Int)(w:World)(h:R64 w q):Calls Tryz.prog 37 #[.agg #[.i q.1,.i q.2]] w (Ret (.b (!vB q.1 q.2)) w):=by
 obtain⟨c,hc⟩:∃c,vB q.1 q.2=c:=⟨_,rfl⟩
 have HC:=hI hc;rw[hc];have HQ:=hI h;clear hc h;have HL0:=hI (Below.refl w.heap.size w)
 go_in
 go_upto_region 1 with(fail);generalize hw9:World.alloc _ _=ww1;obtain⟨HB1,Nx1⟩:=gn1 hw9;clear hw9;have Z1l:=HL0.o.t HB1;have cx:=Nx1.o.cell;go_wp2_with fail;refine(valid_q q.1 q.2 ww1 HQ.o.n1 HQ.o.n2 HQ.o.d1 HQ.o.d2).mono ?_;rw[HC.o];rintro e ww2 ⟨rfl,HB2⟩;clear cx;go_wp2;go_ret;exact⟨rfl,(Z1l.o.t HB2)⟩
theorem badx_any(A:Option Addr)(n c:Nat)(zs:List (Int×Int))(w:World)(hz:InL 2 rtc R64 w A n c zs):
 Calls Tryz.prog 65 #[.l A n c,.func (.func 37) #[] #[]] w (fun e w'=>∃k:Int,e= .returned (.i k)∧Hid (decide (0≤k)=zs.any (fun q=> !vB q.1 q.2))∧Hid (Below w.heap.size w w')):=by
 have u:=hI hz;have v:=hI hz.hl;have H:n≤9223372036854775807:=(by have I:=hz.hc;have y:=hz.hm;unfold maxLen at y;omega);clear hz
 go_in
 go_wp2
 go_loopg [8] n (fun k i wr=>∃j:Nat,i= .i j∧j≤n∧k=n-j∧Hid ((zs.take j).any (fun q=> !vB q.1 q.2)=false)∧Hid (Below w.heap.size w wr))
 case atStart=>exact⟨0,rfl,by omega,by omega,hI rfl,hI (Below.refl _ _)⟩
 obtain⟨j,rfl,J,rfl,r,a⟩:=hrel;have s:=a.o.size
 by_cases hlt:j<n
 ·
  obtain⟨b,o,x,B,l,t,d⟩:=InL.at_ (cells:=rtc) (fun z=>rfl) (u.o.below (fun z _ hz=>hz.any) a.o) j hlt;subst B;have C:=hI (take_snocA zs j x l);have D:=hI (mem_takeA l);have L:=d.lt;have M:wr.cell? ⟨b,o+j*2,none⟩=some (.i x.1):=d.c 0 _ rfl;have N:wr.cell? ⟨b,o+j*2+1,none⟩=some (.i x.2):=d.c 1 _ rfl;have E:decide ((j:Int)<n)=true:=dT;have O:decide (j<n)=true:=decide_eq_true hlt;have P:0≤(j:Int)∧(j:Int)<n:=(by omega);have g:=hI (bad1_any x wr t);clear l t d
  cases hv:vB x.1 x.2 with
  | true=>
   rw[hv]at g;have m:=hI hv;clear hv;go_wp2_with fail;refine g.o.mono ?_;rintro e w2 ⟨rfl,p⟩;go_wp2
   go_roundg (n-(j+1))
   case measure=>omega
   case rel=>exact⟨j+1,by go_num,by omega,rfl,hI (by rw[C.o,List.any_append,r.o];simp[m.o]),(hI (a.o.trans (p.o.mono s)))⟩
  | false=>
   rw[hv]at g;have m:=hI hv;clear hv;go_wp2_with fail;refine g.o.mono ?_;rintro e w2 ⟨rfl,p⟩;go_wp2;go_ret;exact⟨j,rfl,hI (by rw[List.any_eq_true.2 ⟨x,D.o,by rw[m.o];rfl⟩];simp),(hI (a.o.trans (p.o.mono s)))⟩
 have F:j=n:=(by omega);subst F;have G:=hI (show zs.any (fun q=> !vB q.1 q.2)=false by have:=r.o;rwa [List.take_of_length_le (by rw[v.o];omega)]at this);have E:decide ((j:Int)<j)=false:=dF;go_wp2;go_ret;exact⟨-1,rfl,hI (by rw[G.o];rfl),a⟩
theorem badc_any(A:Option Addr)(n c:Nat)(zs:List (Int×Int))(w:World)(hz:InL 2 rtc R64 w A n c zs):
 Calls Tryz.prog 39 #[.l A n c,.func (.func 37) #[] #[]] w (Ret (.b (zs.any (fun q=> !vB q.1 q.2))) w):=by
 have K:=hI (badx_any A n c zs w hz);clear hz;obtain⟨r,hr⟩:=eX (zs.any (fun q=> !vB q.1 q.2));rw[←hr]at K ⊢;clear hr
 go_in
 go_wp2_with fail;refine K.o.mono ?_;rintro e w2 ⟨k,rfl,HK,HB⟩;go_wp2;go_ret;exact⟨ret_bool HK.o,HB⟩
theorem Tryz.infoStr9:(Tryz.prog.info? 9).map (fun i=>(i.zero,i.size,i.bytes))=some (some (.string ⟨#[]⟩),1,16):=by kernel_rfl
theorem nu_str(s:ByteArray):∀u∈[Value.string s],NU u:=by
 intro u hu x e;rw[List.mem_singleton.1 hu]at e
 cases e
theorem OwnN.weaken{w:World}{base base':Nat}{e:TypeId}{size n:Nat}{v:Value}{xs:List Value}(h:OwnN w base e size v n xs)(hb:base'≤base):OwnN w base' e size v n xs:=⟨h.1,by
 rcases h.2 with h | ⟨g,cap,cur,h1,h2,h3⟩
 ·
  exact .inl h
 exact .inr ⟨g,cap,cur,h1,Nat.le_trans hb h2,h3⟩⟩
def NaQ(w:World)(e:Ending)(w':World):Prop:=∃(v:Value) (l:List ByteArray),e= .returned v∧Hid (OwnN w' w.heap.size 9 1 v 18 (l.map Value.string))∧Hid (l.map (fun s=>s.data.toList)=ents.map En.nm)∧Hid (Below w.heap.size w w')
theorem names_any(w:World):Calls Tryz.prog 7 #[] w (NaQ w):=by
 have M:=hI (Below.refl w.heap.size w)
 go_in
 go_wp2_with fail;refine(entries_any w).mono ?_;rintro e ww1 ⟨g,a,rfl,q,b⟩;have r:=M.o.t b;have N:=hI q.o.len;go_wp2
 go_loopg [6,1] 18 (fun k i v wr=>∃j:Nat,i= .i j∧j≤18∧k=18-j∧Hid (OwnN wr ww1.heap.size 9 1 v j ((a.take j).map (fun z=>Value.string z.nm)))∧Hid (Below ww1.heap.size ww1 wr))
 case atStart=>exact⟨0,rfl,by omega,by omega,hI (OwnN.nil _ _ _ _),hI (Below.refl _ _)⟩
 obtain⟨j,rfl,hj,rfl,l,c⟩:=hrel;have O:=c.o.size;have u:=q.o.b9 c
 by_cases hlt:j<18
 ·
  obtain⟨x,y,P,B⟩:=u.o.at_ j hlt;have Q:=hI (take_snocA a j x y);obtain⟨R,m,o,p⟩:=EnN.cells_at B;clear y P B;have n1:decide ((j:Int)<18)=true:=dT;have af:0≤(j:Int)∧(j:Int)<18:=(by omega);go_upto_region 5 with(fail);obtain⟨d,C,b,S⟩:=aX wr 33 #[.string x.nm,.string x.tx,.l x.A x.n x.n];rw[←C];clear C R m o p;obtain⟨m,T,o,U,p,V⟩:=S.o.all3;have D:=hI (b.o.trans ((below_box d (.cells #[.string x.nm] 9)).mono b.o.size));have E:=l.o.b9 D;have F:=hI (c.o.trans (D.o.mono O));have W:=F.o.size;obtain⟨X,G,H,I,J⟩:=info_parts Tryz.infoStr9
  go_wp2_with (at_builtin;refine wpList_append_nu rfl _ _ _ rfl ww1.heap.size 9 X _ 1 16 Tryz.underlying23 G H I J rfl (by omega) _ _ _ rfl E.o d.heap.size _ [.string x.nm] rfl rfl (show Blk (d.alloc (.cells #[.string x.nm] 9)) d.heap.size 9 [Value.string x.nm].toArray from Blk.new _ _ _) (by simp[Value.oneCell']) (by omega) (by omega) W (nu_str _) (nu_str _) ?_)
  intro v9 w9 hown9 hgr9;have Y:=hI (show OwnN w9 ww1.heap.size 9 1 v9 (j+1) ((a.take (j+1)).map (fun z=>Value.string z.nm))by rw[Q.o,List.map_append,List.map_take];exact hown9);have Z:=hI (below_own F.o hgr9 E.o.own);clear hown9 hgr9 G H I J m T o U p V;go_wp2
  go_roundg (18-(j+1))
  case measure=>omega
  case rel=>exact⟨j+1,by go_num,by omega,rfl,Y,Z⟩
 have aa:j=18:=(by omega);subst aa;have L:=l;rw[List.take_of_length_le (show a.length≤18 by rw[N.o];omega)]at L;have ab:=hI (show(a.map EnN.nm).map (fun s=>s.data.toList)=ents.map En.nm by rw[←u.o.e,List.map_map,List.map_map];rfl);have ac:=hI r.o.size;clear l;go_wp2;go_ret;exact⟨_,a.map EnN.nm,rfl,hI (by rw[List.map_map];exact L.o.weaken ac.o),ab,(r.o.t c)⟩
end Go.Proofs.YtgcjmhjjpbcfmaaGreatDoor
namespace Go.Proofs.YtgcjmhjjpbcfmaaGreatDoor
open Go.RowKit Go.Fl Go.Fl.Nm Go.Fl.Lb
end Go.Proofs.YtgcjmhjjpbcfmaaGreatDoor
namespace Go.Proofs.YtgcjmhjjpbcfmaaGreatDoor
open Go.RowKit Go.Fl Go.Fl.Nm Go.Fl.Dy Go.Fl.Fm Go.Fl.Lb
theorem value_any(ap:Int→Int→Iv→Iv→Int→Iv)(p:Int)(f:Nat)(T:TE)(v:Nd)(ns:List ByteArray)(vs:List IvN)(A B:Option Addr)(n c d:Nat)(w:World)(hin:InE w T v)(hn:Rd w 1 A n (ns.map Value.string))(hc:n≤c)(hc2:c≤maxLen)(hv:InL 7 IvN.cl InI w B n d vs)(h200:n≤200)(hd:ns.Nodup)(hT:RB w)
 (hok:okE T=true) (hp1:8≤p) (hp2:p≤512) (hev:EvOK ap (ns.zip vs) f T):
 Calls Tryz.prog 44 #[.agg #[.i v.h.kind,.i v.h.n,.i v.h.d,.string v.h.name,.i v.h.k,.l v.A v.len v.cap],.l A n c,.l B n d,.i p] w (IvQ (evF ap (ns.zip vs) p f T) w):=by
 have N:=hI hin;have O:=hI hn;have P:=hI hv;have Q:=hI hT;have S:=hI hok;have U:=hI hev;have V:=hI hd;have o:=hI (show n≤c∧c≤maxLen∧n≤200 from⟨hc,hc2,h200⟩);have d3:decide (p<8)=false:=dF;have d4:decide (512<p)=false:=dF;obtain⟨R,r⟩:=eX (evF ap (ns.zip vs) p f T);have W:=hI r.symm;rw[←r];clear hin hn hv hT hok hev hd hc hc2 h200 r;have X:=hI (Below.refl w.heap.size w)
 go_in
 go_upto_region 1 with(fail);generalize a:World.alloc _ _=ww1;obtain⟨g,Y,Z⟩:=gn2 a;clear a;have aa:=X.o.t g;go_wp2_with fail;refine(env_any ns vs A B n c d ww1 (O.o.below g.o) o.o.1 o.o.2.1 (P.o.below (fun z _ hz=>hz.belowW g.o) g.o) o.o.2.2 V.o).mono ?_;rintro e ww2 ⟨G,rfl,HM,i⟩;have ac:=aa.o.t i;have E:=hI ((N.o.belowW g.o).belowW i.o);have j:=Y.o.b9 i;have s:=j.o.cell;have u:=j.o.frozen;go_wp2_with fail;refine((show Calls Tryz.prog 73 #[.agg #[.i v.h.kind,.i v.h.n,.i v.h.d,.string v.h.name,.i v.h.k,.l v.A v.len v.cap]] ww2 _ from eValid_p T v ww2 E.o)).mono ?_;rw[S.o];rintro e ww3 ⟨rfl,b⟩;have ad:=ac.o.t b;clear s u;have s:=(j.o.belowW b.o).cell;have u:=(j.o.belowW b.o).frozen;go_wp2_with fail;refine((show Calls Tryz.prog 76 #[.agg #[.i v.h.kind,.i v.h.n,.i v.h.d,.string v.h.name,.i v.h.k,.l v.A v.len v.cap],.map (some G),.i p] ww3 _ from val_at ap p f T v ww3 G _ (E.o.belowW b.o) (HM.o.belowW b.o) (((Q.o.belowW g.o).belowW i.o).belowW b.o) U.o)).mono ?_;rw[W.o];rintro e ww4 ⟨q,rfl,HQ,af,F⟩;have H:=ad.o.t F;clear s u;go_upto_region 5 with(fail);generalize a:World.alloc _ _=ww5;obtain⟨y,I⟩:=gn1 a;clear a;have l:=hI ((((Z.o.belowW i.o).belowW b.o).belowW F.o).belowW y.o);have cy:=I.o.cell;have fy:=I.o.frozen;have C:=l.o.cell;have J:=l.o.frozen;go_wp2;rw[store7_put l.o];obtain⟨L,M,D⟩:=putI (v:=q) (af.o.belowW y.o) l.o noU7 (H.o.trans (y.o.mono H.o.size)) (by omega);obtain⟨w9,a⟩:=eX (putB ww5 (w.heap.size+1) 77 #[.b q.x.lo.neg,.l q.A q.n q.c,.i q.x.lo.e,.b q.x.hi.neg,.l q.B q.m q.d,.i q.x.hi.e,.b q.x.all]);rw[show(q:IvN).cells=#[.b q.x.lo.neg,.l q.A q.n q.c,.i q.x.lo.e,.b q.x.hi.neg,.l q.B q.m q.d,.i q.x.hi.e,.b q.x.all]from rfl,←a]at L M D;rw[←a];clear a;clear cy fy C J;have C:=D.o.cell;have J:=D.o.frozen;refine bodyPost_ret (v:= .agg #[.b q.x.lo.neg,.l q.A q.n q.c,.i q.x.lo.e,.b q.x.hi.neg,.l q.B q.m q.d,.i q.x.hi.e,.b q.x.all]) (by simp[results,Tryz.results44,go_sem,C]) rfl ?_;exact⟨q,rfl,HQ,L,M⟩
