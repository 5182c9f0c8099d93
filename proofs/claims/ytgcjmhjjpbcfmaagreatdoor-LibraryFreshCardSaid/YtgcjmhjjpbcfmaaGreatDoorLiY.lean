import Derived.Test.YtgcjmhjjpbcfmaaGreatDoorRo
import Derived.Test.YtgcjmhjjpbcfmaaGreatDoorPbS
set_option linter.unusedVariables false
set_option linter.unusedSimpArgs false
open List renaming setIfInBounds_toArray → Lj,set_cons_zero → Lk,set_cons_succ → Lq,getElem_toArray → Ly,getElem_cons_zero → Lz,getElem_cons_succ → Lv
set_option maxHeartbeats 8000000
set_option maxRecDepth 100000
namespace Go.Proofs.YtgcjmhjjpbcfmaaGreatDoor
open Go.RowKit Go.Fl Go.Fl.Nm Go.Fl.Lb Go.Fl.Pa
structure StrS (B:Nat) (w w':World):Prop where
  b:Below B w w'
  c:∀(a:Addr) (y:Value),w.cell? a=some y→(∀t,y≠ .string t)→w'.cell? a=some y
  s:∀(a:Addr) (t:ByteArray),w.cell? a=some (.string t)→∃t,w'.cell? a=some (.string t)
  f:∀a:Addr,a.block<w.heap.size→w'.frozen? a=w.frozen? a
theorem StrS.refl(B:Nat)(w:World):StrS B w w:=⟨Below.refl _ _,fun _ _ h _=>h,fun _ t h=>⟨t,h⟩,fun _ _=>rfl⟩
theorem StrS.trans{B:Nat}{w w1 w2:World}(h:StrS B w w1)(k:StrS B w1 w2):StrS B w w2:=
 ⟨h.b.trans k.b,fun a y e n=>k.c a y (h.c a y e n) n,fun a t e=>by obtain⟨u,e2⟩:=h.s a t e;exact k.s a u e2,fun a ha=>(k.f a (Nat.lt_of_lt_of_le ha h.b.size)).trans (h.f a ha)⟩
theorem cell_lt9{w:World}{a:Addr}{y:Value}(h:w.cell? a=some y):a.block<w.heap.size:=by
 unfold World.cell? at h
 split at h
 ·
  rename_i e;exact(Array.getElem?_eq_some_iff.1 e).1
 cases h
theorem StrS.of{B:Nat}{w w':World}(h:Below w.heap.size w w')(hB:B≤w.heap.size):StrS B w w':=
 ⟨h.mono hB,fun a y e _=>(h.cell (cell_lt9 e)).trans e,fun a t e=>⟨t,(h.cell (cell_lt9 e)).trans e⟩,fun a ha=>h.frozen ha⟩
theorem StrS.set{B:Nat}{w:World}{b o:Nat}{t:ByteArray}(u:ByteArray)(h:w.cell? ⟨b,o,none⟩=some (.string t))(hb:B≤b):StrS B w (w.setCell ⟨b,o,none⟩ (.string u)):=by
 refine⟨(Below.refl B w).setCell hb _,fun a y e n=>?_,fun a s e=>?_,fun a _=>World.frozen?_setCell ..⟩
 ·
  exact(World.cell?_setCell_other _ _ _ _ (fun q=>by rw[←q,h]at e;injection e with e;exact n t e.symm)).trans e
 by_cases q:(⟨b,o,none⟩:Addr)=a
 ·
  subst q;exact⟨u,World.cell?_setCell_same _ _ _ h⟩
 exact⟨s,(World.cell?_setCell_other _ _ _ _ q).trans e⟩
def SC(w:World)(b o:Nat):Prop:=(∃t,w.cell? ⟨b,o,none⟩=some (.string t))∧w.frozen? ⟨b,o,none⟩=false
theorem SC.str{B:Nat}{w w':World}{b o:Nat}(h:SC w b o)(k:StrS B w w'):SC w' b o:=by
 obtain⟨⟨t,e⟩,f⟩:=h;exact⟨k.s _ t e,(k.f ⟨b,o,none⟩ (cell_lt9 e)).trans f⟩
theorem SC.belowW{w w':World}{b o:Nat}(h:SC w b o)(k:Below w.heap.size w w'):SC w' b o:=h.str (StrS.of k (Nat.zero_le _))
theorem rd_sc{w:World}{m n b o:Nat}{xs:List Value}{t:ByteArray}(j:Nat)(h:Rd w m (some ⟨b,o,none⟩) n xs)(hn:0<n)(hf:NF w (some ⟨b,o,none⟩))(hx:xs[j]? =some (.string t)):SC w b (o+j):=by
 obtain⟨b',o',e,_,hc⟩:=h.2 hn;injection e with e;injection e with e1 e2;subst e1 e2;exact⟨⟨t,hc j _ hx⟩,(hf b o rfl).2 _⟩
theorem InK.sc{P:Nat→Prop}{w:World}{x:EnN}(h:InK P w x)(hn:0<x.n):∃b o,x.A=some ⟨b,o,none⟩∧P b∧∀j,j<x.n→SC w b (o+j):=by
 obtain⟨b,o,hA,_,_⟩:=h.r.2 hn;refine⟨b,o,hA,h.p b o hA,fun j hj=>?_⟩;have hl:=h.r.1;rw[List.length_map,Nat.mul_one]at hl;have hr:=h.r;have hf:=h.f;rw[hA]at hr hf;exact rd_sc j hr hn hf (t:=x.kn[j]'(by omega)) (by rw[List.getElem?_map,List.getElem?_eq_getElem (by omega)];rfl)
theorem names_0{l:List ByteArray}(h:l.map (fun s=>s.data.toList)=ents.map En.nm):l[0]? =some ⟨#[100,101,99,97,121]⟩:=by
 have h5:=congrArg (fun z=>z[0]?) h;simp only[List.getElem?_map]at h5;obtain⟨s,hs,hn⟩:=Option.map_eq_some_iff.1 (h5.trans (show _=some [100,101,99,97,121]from rfl));rw[hs,bytes_ext9 (a:=s) (b:=⟨#[100,101,99,97,121]⟩) hn]
theorem names_at(w:World):Calls Tryz.prog 7 #[] w fun e w'=>∃(b o c:Nat) (l:List ByteArray),e= .returned (.l (some ⟨b,o,none⟩) 18 c)∧Hid (Rd w' 1 (some ⟨b,o,none⟩) 18 (l.map Value.string))∧Hid (l.map (fun s=>s.data.toList)=ents.map En.nm)∧Hid (w.heap.size≤b)∧Hid (SC w' b o)∧Hid (Below w.heap.size w w'):=
  (names_any w).mono (by
    rintro e w' ⟨v,l,rfl,hO,hE,hB⟩
    rcases hO.o.2 with⟨_,h0⟩ | ⟨g,cap,cur,hv,hg,hb,_⟩
    · cases h0
    obtain⟨A,c,hv2,_,_,_,hr⟩:=hO.o.rd;rw[hv]at hv2 ⊢;injection hv2 with h1 h2 h3;subst h1;have h4:=names_0 hE.o
    exact⟨g,0,cap,l,rfl,hI hr,hE,hI hg,hI (rd_sc 0 hr (by omega) (NF.blk hb) (t:=⟨#[100,101,99,97,121]⟩) (by rw[List.getElem?_map,h4];rfl)),hB⟩)
theorem rd_0{w:World}{b o n:Nat}{xs:List Value}{u:Value}(h:Rd w 1 (some ⟨b,o,none⟩) n xs)(hn:0<n)(hx:xs[0]? =some u):w.cell? ⟨b,o,none⟩=some u:=by
 obtain⟨b',o',e,_,hc⟩:=h.2 hn;injection e with e;injection e with e1 e2;subst e1 e2;exact hc 0 _ hx
theorem ents_0{base:Nat}{w:World}{g:Nat}{zs:List EnN}(h:InEs base w g zs):w.cell? ⟨g,0,none⟩=some (.string ⟨#[100,101,99,97,121]⟩):=by
 obtain⟨x,hx,_,hat⟩:=h.at_ 0 (by omega);have h5:=congrArg (fun z=>z[0]?) h.e;simp only[List.getElem?_map,hx]at h5;injection h5 with h5;have:=hat.c 0 _ rfl;rw[this,bytes_ext9 (a:=x.nm) (b:=⟨#[100,101,99,97,121]⟩) (congrArg En.nm h5)]
structure PbS (B:Nat) (w:World) (v:PbN) (x:MdN) (a b c d e f:Nat):Prop where
  n:0<v.n
  k:0<v.k
  l:0<x.n
  A:v.A=some ⟨a,b,none⟩
  C:v.C=some ⟨c,d,none⟩
  F:x.A=some ⟨e,f,none⟩
  q:B≤a∧B≤c∧B≤e
  m:w.cell? ⟨c,d+1,none⟩=some (.slice (some ⟨e,f,none⟩) x.n x.c)
  s:SC w a b∧SC w c d∧SC w e f
def shP(p:PbP):Bool:=p.ok&& !p.st.isEmpty&&match p.ms with
  | m::_=> !m.fl.isEmpty
  | []=>false
theorem prs_sh:∀p∈prs,shP p=true:=by decide+kernel
theorem pO_sh{s:List UInt8}(h:(fE s).2=0):shP (pO s)=true:=by
 obtain⟨i,hi,he⟩:=List.getElem_of_mem (fE_mem h);obtain⟨e',p,h1,h2,h3⟩:=of_all i hi;rw[List.getElem?_eq_getElem hi,he]at h1;injection h1 with h1;subst h1;rw[pO_of h h3 (fE_mem h)];exact prs_sh p (List.mem_of_getElem? h2)
theorem lil_sc{Z:Type}{m:Nat}{cells:Z→List Value}{Pz:(Nat→Prop)→World→Z→Prop}{B:Nat}{w:World}{A:Option Addr}{len cap:Nat}{z:Z}{zs:List Z}{t:ByteArray}{r:List Value}
 (h:LiL m cells Pz (fun b=>B≤b) w A len cap (z::zs)) (hz:cells z= .string t::r):0<len∧∃b o,A=some ⟨b,o,none⟩∧B≤b∧SC w b o∧∀j u,(cells z)[j]? =some u→w.cell? ⟨b,o+j,none⟩=some u:=by
 have hl:0<len:=(by rw[←h.il.hl];exact Nat.zero_lt_succ _);obtain⟨b,o,hA,_,hc⟩:=h.il.hr.2 hl
 have hj:∀j u,(cells z)[j]? =some u→w.cell? ⟨b,o+j,none⟩=some u:=fun j u hu=>hc j u (by rw[List.flatMap_cons,List.getElem?_append_left (List.getElem?_eq_some_iff.1 hu).1];exact hu)
 exact⟨hl,b,o,hA,h.hg hl b o hA,⟨⟨t,hj 0 _ (by rw[hz];rfl)⟩,(h.fz hl b o hA).2 _⟩,hj⟩
theorem pbs_of{B:Nat}{w:World}{s:List UInt8}{v:PbN}(h:InXP B w (pO s) v)(hs:(fE s).2=0):∃x a b c d e f,PbS B w v x a b c d e f:=by
 have sh:=pO_sh hs;have hp:=h.pl;obtain⟨A,n,c,st,B',m,d,pa,C,k,e,ms,t,u⟩:=v;rw[←hp]at sh;unfold shP PbN.pl at sh;have z:=h.z
 cases st with
 | nil=>simp at sh
 | cons x0 st=>
  cases ms with
  | nil=>simp at sh
  | cons y ms=>
   obtain⟨yn,yA,yn',yc,fl,yB,ym,yd,ed⟩:=y
   cases fl with
   | nil=>simp[MdN.pl]at sh
   | cons q fl=>
    obtain⟨h1,a1,b1,e1,p1,s1,_⟩:=lil_sc z.hs rfl;obtain⟨h2,a2,b2,e2,p2,s2,m2⟩:=lil_sc z.hm rfl;obtain⟨h3,a3,b3,e3,p3,s3,_⟩:=lil_sc (z.hm.il.hi _ (List.mem_cons_self ..)).hf rfl;refine⟨_,_,_,_,_,_,_,h1,h2,h3,e1,e2,e3,⟨p1,p2,p3⟩,?_,s1,s2,s3⟩;rw[←e3];exact m2 1 _ rfl
theorem knF_eq{z x:EnN}(h:z.pl=x.pl):z.nm=x.nm∧z.tx=x.tx∧z.kn=x.kn:=
 ⟨bytes_ext9 (congrArg En.nm h),bytes_ext9 (congrArg En.tx h),(List.map_inj_right (fun a b e=>bytes_ext9 e)).1 (congrArg En.kn h)⟩
theorem kn_le{P:Nat→Prop}{w:World}{x:EnN}{e:En}(h:InK P w x)(hp:x.pl=e)(he:e∈ents):x.n≤2:=by
 have h1:=kn_len e he;rw[←hp]at h1;have h2:=h.r.1;unfold EnN.pl at h1;rw[List.length_map]at h1 h2
 omega
theorem libraryFresh_any(k:Nat)(w:World)(hk:k<256)(hR:RX w)(hX:FX w):Calls Tryz.prog 4 #[.int .u8 k] w (Ret (.b true) w):=by
 have HR:=hI hR;have HX:=hI hX;clear hR hX;obtain⟨j,dt⟩:=eX (k%18);have hj:j<18:=(by omega);have e1:((k:Int)).tmod 18=(j:Int):=(by rw[Int.tmod_eq_emod_of_nonneg (by omega)];omega);have e2:IntKind.i64.wrap (k:Int)=k:=(by rw[IntKind.wrap_i64];omega);have e3:IntKind.i64.wrap (j:Int)=j:=(by rw[IntKind.wrap_i64];omega)
 obtain⟨E,hE⟩:∃E,ents[j]? =some E:=⟨_,List.getElem?_eq_getElem hj⟩
 have HM:=hI (List.mem_of_getElem? hE);clear dt;have dy:=hI (Below.refl w.heap.size w)
 go_in
 go_wp2_with fail;refine(awake51_any w HR.o HX.o).mono ?_;rintro e ww1 ⟨rfl,a3⟩;have b4:=dy.o.t a3;go_wp2_with fail;refine(names_at ww1).mono ?_;rintro e ww2 ⟨bn,on,cn,ln,rfl,dz,d0,d7,d8,a5⟩;have b7:=b4.o.t a5
 obtain⟨s,hs,cb⟩:∃s,ln[j]? =some s∧s.data.toList=E.nm:=by
  have h:=congrArg (fun z=>z[j]?) d0.o;simp only[List.getElem?_map,hE]at h;exact Option.map_eq_some_iff.1 h
 have F:=hI (show fE s.data.toList=(E,0)by rw[cb];exact fE_ent E HM.o)
 obtain⟨d9⟩:Nonempty (ww2.cell? ⟨bn,on+j,none⟩=some (.string s)):=by
  obtain⟨b',o',e,_,hc⟩:=dz.o.2 (by omega);injection e with e;injection e with q1 q2;subst q1 q2;exact⟨hc j _ (by rw[List.getElem?_map,hs];rfl)⟩
 have ea:0≤(j:Int)∧(j:Int)<18:=(by omega);have cc:w.heap.size≤bn:=Nat.le_trans b4.o.size d7.o;clear hs cb hE;go_wp2_with fail;refine(get_any s ww2).mono ?_;rw[F.o];rintro e ww3 ⟨z,rfl,eb,cd,al⟩;have ec:=b7.o.t al;clear d9 ea e1 e2 e3;have ed:w.heap.size≤ww2.heap.size:=b7.o.size;have gd:=kn_le cd.o eb.o HM.o;go_upto_region 8 with(fail);generalize a:World.alloc _ _=ww4;obtain⟨V,ee⟩:=gn1 a;clear a;have ce:=ec.o.t V;go_wp2_with fail;refine(lproblem_any s ww4 ((((HR.o.belowW a3.o).belowW a5.o).belowW al.o).belowW V.o) ((((HX.o.belowW a3.o).belowW a5.o).belowW al.o).belowW V.o) fE_pb).mono ?_;rintro e ww5 ⟨v,rfl,HV,am⟩;have cf:=ce.o.t am;rw[F.o];have an:w.heap.size≤ww4.heap.size:=ce.o.size;obtain⟨x,bs,os,bm,om,bf,of,g⟩:=pbs_of HV.o (by rw[F.o]);rw[g.A,g.C];have ge:=hI g.s.1;have gf:=hI g.s.2.1;have gg:=hI g.s.2.2;have ci:=hI (StrS.refl w.heap.size ww5);have cj:w.heap.size≤ww5.heap.size:=cf.o.size;go_upto_region 9 with(fail);generalize a:World.alloc _ _=ww6;obtain⟨W,G⟩:=gn1 a;clear a;have ck:=cf.o.t W;have cl:=hI ((ee.o.belowW am.o).belowW W.o);have X:=hI (ci.o.trans (StrS.of W.o (Nat.le_trans cj ci.o.b.size)));have d1:((v.n:Int)==0)=false:=(by have:=g.n;simp;omega);have d2:((v.k:Int)==0)=false:=(by have:=g.k;simp;omega);have d3:((x.n:Int)==0)=false:=(by have:=g.l;simp;omega);have d4:(v.n==0)=false:=(by have:=g.n;simp;omega);have d5:(v.k==0)=false:=(by have:=g.k;simp;omega);have d6:(x.n==0)=false:=(by have:=g.l;simp;omega);have em:0<v.k:=g.k;have en:=X.o.c _ _ g.m (by simp);have cp:=G.o.cell;have fp:=G.o.frozen;obtain⟨⟨t9,c9⟩,L⟩:=((((d8.o.belowW al.o).belowW V.o).belowW am.o).belowW W.o);go_upto_region 12 with(fail);clear cp fp;obtain⟨wa,a⟩:=eX (ww6.setCell ⟨bn,on,none⟩ (.string ⟨#[99,104,97,110,103,101,100]⟩));have bb:=hI (show StrS w.heap.size ww6 wa by rw[a];exact StrS.set _ c9 cc);rw[←a];clear a t9 c9 L d1 d2 d3 d4 d5 d6 em en;have er:=hI (g.s.1.str X.o);have es:=hI (g.s.2.1.str X.o);have et:=hI (g.s.2.2.str X.o);have ap:=hI (X.o.c _ _ g.m (by simp));have eu:=hI g.k;have ev:=hI g.n;have ew:=hI g.l;have bc:=hI (show w.heap.size≤bs∧w.heap.size≤bm∧w.heap.size≤bf from⟨Nat.le_trans an g.q.1,Nat.le_trans an g.q.2.1,Nat.le_trans an g.q.2.2⟩);clear g an cj cc;have ex:=bb.o.c _ _ (cl.o.cell 2) (by simp);go_wp2;clear ex
 go_loopg [75,9] z.n (fun gk i i9 wr=>∃q:Nat,i= .i q∧q≤z.n∧gk=z.n-q∧Hid (StrS w.heap.size ww6 wr))
 case atStart=>exact⟨0,rfl,Nat.zero_le _,rfl,bb⟩
 obtain⟨q,rfl,hq,rfl,Y⟩:=hrel;clear bb
 by_cases hlt:q<z.n
 ·
  obtain⟨bz,oz,cm,e4,cq⟩:=(((cd.o.below V.o).below am.o).below W.o).sc (by omega);have cz:=Y.o.c _ _ (cl.o.cell 2) (by simp);rw[cm]at cz;obtain⟨⟨t3,c3⟩,f3⟩:=(cq q hlt).str Y.o;have n1:decide ((q:Int)<z.n)=true:=dT;have n2:decide (q<z.n)=true:=decide_eq_true hlt;have gl:0≤(q:Int)∧(q:Int)<z.n:=(by omega);have e9:IntKind.i64.wrap ((q:Int)+1)=(q:Int)+1:=(by rw[IntKind.wrap_i64];omega);clear cm cq;go_wp2_with fail;obtain⟨wb,a⟩:=eX (wr.setCell ⟨bz,oz+q,none⟩ (.string ⟨#[99,104,97,110,103,101,100]⟩));have e8:=hI (show StrS w.heap.size ww6 wb by rw[a];exact Y.o.trans (StrS.set _ c3 (Nat.le_trans ed e4)));rw[←a];clear a
  go_roundg (z.n-(q+1))
  case measure=>omega
  case rel=>exact⟨q+1,by go_num,by omega,rfl,e8⟩
 have n1:decide ((q:Int)<z.n)=false:=dF;have fb:=eu.o;have fc:=ew.o;have fd:=ev.o;go_upto_region 17 with(fail);clear n1 hq hlt;have cs:=hI (below_dr wr);have Q:=hI (Y.o.trans (StrS.of cs.o (Nat.le_trans ck.o.size Y.o.b.size)))
 refine wp_region_held_drew (S:=fun w'=>w'.cell? ⟨ww5.heap.size,0,none⟩=some (.l (some ⟨bs,os,none⟩) v.n v.c)∧w'.cell? ⟨ww5.heap.size,2,none⟩=some (.l (some ⟨bm,om,none⟩) v.k v.e)∧w'.cell? ⟨bm,om+1,none⟩=some (.l (some ⟨bf,of,none⟩) x.n x.c)) (by kernel_rfl) ⟨Q.o.c _ _ (G.o.cell 0) (by simp),Q.o.c _ _ (G.o.cell 2) (by simp),Q.o.c _ _ ap.o (by simp)⟩ fun hHeld=>?_
 obtain⟨ct,Z⟩:=eX (wr.drew);rw[←Z]at cs Q hHeld ⊢;clear Z;refine tkW 0 ?_;refine tkW 1 ?_;refine tkW 2 ?_;refine tkW 3 ?_;refine tkW 4 ?_;refine tkW 5 ?_;refine tkW 6 ?_;refine tkW 7 ?_;refine tkW 8 ?_;refine tkW 9 ?_;refine tkW 10 ?_
 refine wr1 11 fun K hK=>?_
 have D:=er.o.str Q.o;have L:=D.2
 refine D.1.elim fun t9 c9=>?_
 clear D;go_simp;obtain⟨bd,a⟩:=eX (ct.setCell ⟨bs,os,none⟩ (.string ⟨#[99,104,97,110,103,101,100]⟩));have fe:=hI (show StrS w.heap.size ct bd by rw[a];exact StrS.set _ c9 bc.o.1);rw[←a];clear a c9 L t9;have aa:=hI (Q.o.trans fe.o);clear hHeld
 refine hK.out _ _ ⟨aa.o.c _ _ (G.o.cell 0) (by simp),aa.o.c _ _ (G.o.cell 2) (by simp),aa.o.c _ _ ap.o (by simp)⟩ fun hHeld=>?_
 clear hK K
 try simp only[Lj,Lk,Lq]
 refine tkW 12 ?_;refine tkW 13 ?_
 refine wr1 14 fun K hK=>?_
 have D:=et.o.str aa.o;have L:=D.2
 refine D.1.elim fun t9 c9=>?_
 clear D;go_simp;obtain⟨be,a⟩:=eX (bd.setCell ⟨bf,of,none⟩ (.string ⟨#[99,104,97,110,103,101,100]⟩));have ff:=hI (show StrS w.heap.size bd be by rw[a];exact StrS.set _ c9 bc.o.2.2);rw[←a];clear a c9 L t9;have ab:=hI (aa.o.trans ff.o);clear hHeld
 refine hK.out _ _ ⟨ab.o.c _ _ (G.o.cell 0) (by simp),ab.o.c _ _ (G.o.cell 2) (by simp),ab.o.c _ _ ap.o (by simp)⟩ fun hHeld=>?_
 clear hK K
 try simp only[Lj,Lk,Lq]
 refine tkW 15 ?_;refine tkW 16 ?_
 refine wr1 17 fun K hK=>?_
 have D:=es.o.str ab.o;have L:=D.2
 refine D.1.elim fun t9 c9=>?_
 clear D;go_simp;obtain⟨cu,a⟩:=eX (be.setCell ⟨bm,om,none⟩ (.string ⟨#[99,104,97,110,103,101,100]⟩));have fg:=hI (show StrS w.heap.size be cu by rw[a];exact StrS.set _ c9 bc.o.2.1);rw[←a];clear a c9 L t9;have aq:=hI (ab.o.trans fg.o);clear hHeld
 refine hK.out _ _ ⟨aq.o.c _ _ (G.o.cell 0) (by simp),aq.o.c _ _ (G.o.cell 2) (by simp),aq.o.c _ _ ap.o (by simp)⟩ fun hHeld=>?_
 clear hK K
 try simp only[Lj,Lk,Lq]
 refine wpAnyH_done (by kernel_rfl) ?_ _;have bg:=hI (ck.o.trans aq.o.b);clear fb fc fd;go_wp2_with fail;refine(find_any s cu).mono ?_;rw[F.o];rintro e ww31 ⟨o,rfl,bh,bi,bj⟩;have fh:=bg.o.t bj;go_upto_region 19 with(fail);generalize a:World.alloc _ _=ww32;obtain⟨ar,fi⟩:=gn1 a;clear a;have fj:=fh.o.t ar;go_wp2_with fail;refine(get_any s ww32).mono ?_;rw[F.o];rintro e ww33 ⟨zb,rfl,cv,bk,ac⟩;have fk:=fj.o.t ac;obtain⟨q1,q2,q3⟩:=knF_eq (cv.o.trans bh.o.symm)
 have bo:zb.n=o.n:=by
  have h1:=bk.o.r.1;have h2:=bi.o.r.1;rw[q3]at h1
  omega
 have fn:=hI (show Rd ww33 1 zb.A o.n (o.kn.map Value.string)by rw[←q3,←bo];exact bk.o.r);have gn:=kn_le bi.o bh.o HM.o;have bp:=hI (show o.tx.data.toList=E.tx from congrArg En.tx bh.o)
 dsimp only
 rw[bo];clear q1 q2 q3 bo bk cv;go_upto_region 20 with(fail);generalize a:World.alloc _ _=ww34;obtain⟨R,fo⟩:=gn1 a;clear a;have fq:=fk.o.t R;have cw:=hI (((((HR.o.belowW bg.o).belowW bj.o).belowW ar.o).belowW ac.o).belowW R.o);have cx:=hI (((((HX.o.belowW bg.o).belowW bj.o).belowW ar.o).belowW ac.o).belowW R.o);go_wp2_with fail;refine(lproblem_any s ww34 cw.o cx.o fE_pb).mono ?_;rintro e ww35 ⟨p,rfl,fr,M⟩;have fs:=fq.o.t M;rw[F.o];go_upto_region 21 with(fail);generalize a:World.alloc _ _=ww36;obtain⟨I,ft⟩:=gn1 a;clear a;have fu:=fs.o.t I;have bq:=hI ((((fi.o.belowW ac.o).belowW R.o).belowW M.o).belowW I.o);have br:=hI (fE_pb (s:=s.data.toList) (by rw[F.o]));rw[F.o]at br;have cy:=hI (show(pO s.data.toList).ok=true by have:=pO_sh (s:=s.data.toList) (by rw[F.o]);unfold shP at this;simp only[Bool.and_eq_true]at this;exact this.1.1);have fv:=hI (show pbT o.tx.data.toList=pO s.data.toList by unfold pO;rw[F.o,if_pos rfl,bp.o]);have fw:=hI (show o.tx.size≤maxLen by have h:=br.o.2;rw[←bp.o]at h;have h2:o.tx.data.toList.length=o.tx.size:=(by simp);unfold maxLen;omega);have ca:=bq.o.cell;have fa:=bq.o.frozen;go_wp2_with fail;refine(pProb_t o.tx ww36 fw.o ((cw.o.belowW M.o).belowW I.o) ((cx.o.belowW M.o).belowW I.o)).mono ?_;rintro e ww37 ⟨y,ln,co,rfl,N,c0⟩;have fz:=fu.o.t N;clear ca fa;rw[fv.o]at c0;rw[bp.o,br.o.1];go_upto_region 22 with(fail);generalize a:World.alloc _ _=ww38;obtain⟨J,f0,_⟩:=gn2 a;clear a;have f1:=fz.o.t J
 obtain⟨O,c1⟩:∃z:ByteArray,z=⟨#[100,101,99,97,121]⟩:=⟨_,rfl⟩
 have T:=hI c1;clear c1;have gp:(O==O)=true:=(by rw[MapKept.bytes_beq]);have gq:(O.toList==O.toList)=true:=beq_self_eq_true _;go_upto_region 22 with(fail);have H:=hI (below_dr ww38);have c4:=f1.o.t H;have c5:=hI ((((((((bi.o.below ar.o).below ac.o).below R.o).below M.o).below I.o).below N.o).below J.o).below H.o);have bt:=hI (((bq.o.belowW N.o).belowW J.o).belowW H.o);have c6:=hI ((((((fn.o.below R.o).below M.o).below I.o).below N.o).below J.o).below H.o);have bu:=hI (((((fo.o.belowW M.o).belowW I.o).belowW N.o).belowW J.o).belowW H.o);have c7:=hI ((((fr.o.belowW I.o).belowW N.o).belowW J.o).belowW H.o);have bv:=hI (((ft.o.belowW N.o).belowW J.o).belowW H.o);have c8:=hI ((c0.o.belowW J.o).belowW H.o);have bw:=f0.o.b9 H
 refine wp_region_held_drew (S:=fun w'=>w'.cell? ⟨ww33.heap.size,2,none⟩=some (.l zb.A o.n o.n)∧w'.cell? ⟨ww31.heap.size,2,none⟩=some (.l o.A o.n o.n)∧cz5 w' ww35.heap.size (.l p.A p.n p.c) (.l p.B p.m p.d) (.l p.C p.k p.e) (.i p.t) (.i p.u)∧cz5 w' ww37.heap.size (.l y.A y.n y.c) (.l y.B y.m y.d) (.l y.C y.k y.e) (.i y.t) (.i y.u)) (by kernel_rfl) ⟨bu.o.cell 2,bt.o.cell 2,bv.o.cz5,bw.o.cz5⟩ fun hHeld=>?_
 obtain⟨f2,Z⟩:=eX (ww38.drew);rw[←Z]at H c4 c5 bt c6 bu c7 bv c8 bw hHeld ⊢;clear Z;refine tkW 0 ?_;refine tkW 1 ?_;refine tkW 2 ?_;refine tkW 3 ?_;refine tkW 4 ?_;refine tkW 5 ?_;refine tkW 6 ?_;refine tkW 7 ?_;refine tkW 8 ?_;refine tkW 9 ?_;refine tkW 10 ?_;refine tkW 11 ?_;refine tkW 12 ?_;refine tkW 13 ?_;refine tkW 14 ?_
 refine wr1 15 fun K hK=>?_
 go_simp
 (with_reducible refine(seq_any zb.A o.n o.n o.A o.n o.kn f2 c6.o c5.o.r (by omega)).mono ?_)
 rintro e w482 ⟨rfl,P⟩;have f4:=c4.o.t P;have da:=bt.o.b9 P;have db:=bu.o.b9 P;have bx:=c7.o.b9 P;have dc:=bv.o.b9 P;have b0:=c8.o.b9 P;have dd:=bw.o.b9 P;go_wp2_with fail;clear hHeld
 refine hK.out _ _ ⟨db.o.cell 2,da.o.cell 2,dc.o.cz5,dd.o.cz5⟩ fun hHeld=>?_
 clear hK K
 try simp only[Lj,Lk,Lq]
 refine tkW 16 ?_;refine tkW 17 ?_;refine tkW 18 ?_;refine tkW 19 ?_
 refine wr1 20 fun K hK=>?_
 go_simp
 (with_reducible refine(tsame_yes p y w482 bx.o.z.toP b0.o.z.toP (bx.o.ok.trans cy.o) (b0.o.ok.trans cy.o) (bx.o.pl.trans b0.o.pl.symm)).mono ?_)
 rintro e w483 ⟨rfl,ad⟩;have f5:=f4.o.t ad;have de:=da.o.b9 ad;have df:=db.o.b9 ad;have dg:=dc.o.b9 ad;have dh:=dd.o.b9 ad;go_wp2_with fail;clear hHeld
 refine hK.out _ _ ⟨df.o.cell 2,de.o.cell 2,dg.o.cz5,dh.o.cz5⟩ fun hHeld=>?_
 clear hK K
 try simp only[Lj,Lk,Lq]
 refine tkW 21 ?_;refine tkW 22 ?_
 refine wr1 23 fun K hK=>?_
 go_simp
 (with_reducible refine(names_at w483).mono ?_)
 rintro e w484 ⟨b2,o2,c2,l2,rfl,f6,b1,gv,gw,ae⟩;have di:=f5.o.t ae;have av:=de.o.b9 ae;have aw:=df.o.b9 ae;have ax:=dg.o.b9 ae;have ay:=dh.o.b9 ae;have dj:=hI (f6.o);go_wp2_with fail;clear hHeld
 refine hK.out _ _ ⟨aw.o.cell 2,av.o.cell 2,ax.o.cz5,ay.o.cz5⟩ fun hHeld=>?_
 clear hK K
 try simp only[Lj,Lk,Lq]
 refine tkW 24 ?_;refine wpAnyH_ready (rs:=[25,26]) (by kernel_rfl) (by simp) ?_;refine(AllReadyH.cons rfl (fun K hK=>?_) (AllReadyH.cons rfl (fun K hK=>?_) AllReadyH.nil))
 ·
  have dk:=rd_0 dj.o (by omega) (u:= .string O) (by rw[List.getElem?_map,names_0 b1.o,T.o];rfl);go_simp;clear hHeld
  refine hK.out _ _ ⟨aw.o.cell 2,av.o.cell 2,ax.o.cz5,ay.o.cz5⟩ fun hHeld=>?_
  clear hK K
  try simp only[Lj,Lk,Lq]
  refine wr1 26 fun K hK=>?_
  go_simp
  (with_reducible refine(all_any w484).mono ?_)
  rintro e w486 ⟨g3,z3,rfl,b3,af⟩;have dl:=av.o.b9 af;have dm:=aw.o.b9 af;have dn:=ax.o.b9 af;have dp:=ay.o.b9 af;go_wp2_with fail;clear hHeld
  refine hK.out _ _ ⟨dm.o.cell 2,dl.o.cell 2,dn.o.cz5,dp.o.cz5⟩ fun hHeld=>?_
  clear hK K
  try simp only[Lj,Lk,Lq]
  refine tkW 27 ?_;refine tkW 28 ?_
  refine wr1 29 fun K hK=>?_
  have ag:=ents_0 (b3.o);rw[←T.o]at ag;go_simp;clear hHeld
  refine hK.out _ _ ⟨dm.o.cell 2,dl.o.cell 2,dn.o.cz5,dp.o.cz5⟩ fun hHeld=>?_
  clear hK K
  try simp only[Lj,Lk,Lq]
  refine tkW 30 ?_;refine tkW 31 ?_;refine tkW 32 ?_;refine wpAnyH_done (by kernel_rfl) ?_ _;go_wp2;go_ret;exact⟨rfl,(di.o.t af)⟩
 go_simp
 (with_reducible refine(all_any w484).mono ?_)
 rintro e w485 ⟨g3,z3,rfl,b3,U⟩;have dq:=di.o.t U;have ah:=av.o.b9 U;have ai:=aw.o.b9 U;have aj:=ax.o.b9 U;have ak:=ay.o.b9 U;have dr:=hI (dj.o.below U.o);have ds:=hI (b3.o);go_wp2_with fail;clear hHeld
 refine hK.out _ _ ⟨ai.o.cell 2,ah.o.cell 2,aj.o.cz5,ak.o.cz5⟩ fun hHeld=>?_
 clear hK K
 try simp only[Lj,Lk,Lq]
 refine tkW 27 ?_;refine tkW 28 ?_;refine wpAnyH_ready (rs:=[25,29]) (by kernel_rfl) (by simp) ?_;refine(AllReadyH.cons rfl (fun K hK=>?_) (AllReadyH.cons rfl (fun K hK=>?_) AllReadyH.nil))
 ·
  have dk:=rd_0 dr.o (by omega) (u:= .string O) (by rw[List.getElem?_map,names_0 b1.o,T.o];rfl);go_simp;clear hHeld
  refine hK.out _ _ ⟨ai.o.cell 2,ah.o.cell 2,aj.o.cz5,ak.o.cz5⟩ fun hHeld=>?_
  clear hK K
  try simp only[Lj,Lk,Lq]
  refine wr1 29 fun K hK=>?_
  have ag:=ents_0 ds.o;rw[←T.o]at ag;go_simp;clear hHeld
  refine hK.out _ _ ⟨ai.o.cell 2,ah.o.cell 2,aj.o.cz5,ak.o.cz5⟩ fun hHeld=>?_
  clear hK K
  try simp only[Lj,Lk,Lq]
  refine tkW 30 ?_;refine tkW 31 ?_;refine tkW 32 ?_;refine wpAnyH_done (by kernel_rfl) ?_ _;go_wp2;go_ret;exact⟨rfl,dq⟩
 have ag:=ents_0 ds.o;rw[←T.o]at ag;go_simp;clear hHeld
 refine hK.out _ _ ⟨ai.o.cell 2,ah.o.cell 2,aj.o.cz5,ak.o.cz5⟩ fun hHeld=>?_
 clear hK K
 try simp only[Lj,Lk,Lq]
 refine wr1 25 fun K hK=>?_
 have dk:=rd_0 dr.o (by omega) (u:= .string O) (by rw[List.getElem?_map,names_0 b1.o,T.o];rfl);go_simp;clear hHeld
 refine hK.out _ _ ⟨ai.o.cell 2,ah.o.cell 2,aj.o.cz5,ak.o.cz5⟩ fun hHeld=>?_
 clear hK K
 try simp only[Lj,Lk,Lq]
 refine tkW 30 ?_;refine tkW 31 ?_;refine tkW 32 ?_;refine wpAnyH_done (by kernel_rfl) ?_ _;go_wp2;go_ret;exact⟨rfl,dq⟩
