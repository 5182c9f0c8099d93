import Derived.Test.YtgcjmhjjpbcfmaaGreatDoorPbE
set_option linter.unusedVariables false
open List renaming setIfInBounds_toArray → Lj,set_cons_zero → Lk,set_cons_succ → Lq,getElem_toArray → Ly,getElem_cons_zero → Lz,getElem_cons_succ → Lv
set_option maxHeartbeats 4000000
set_option maxRecDepth 100000
namespace Go.Proofs.YtgcjmhjjpbcfmaaGreatDoor
open Go.RowKit Go.Fl Go.Fl.Lx Go.Fl.Nm Go.Fl.Fm Go.Fl.Rt Go.Fl.Pa
def AllR{α:Type}(P:α→Prop)(r:PR α):Prop:=∀a k,r= .ok a k→P a
theorem allR_bind{α β:Type}{Q:α→Prop}{P:β→Prop}{r:PR α}{f:α→Nat→PR β}(h1:AllR Q r)(h2:∀a k,Q a→AllR P (f a k)):AllR P (r.bind f):=fun b k h=>by
 cases r with
 | ok a k1=>exact h2 a k1 (h1 a k1 rfl) b k h
 | bad l c e=>cases h
 | out=>cases h
theorem allR_ok{α:Type}{P:α→Prop}{a:α}{k:Nat}(h:P a):AllR P (.ok a k):=fun b k1 e=>by
 injection e with e _;rw[←e];exact h
theorem allR_any{α:Type}(r:PR α):AllR (fun _=>True) r:=fun _ _ _=>trivial
def Sm(a:Int×Int):Prop:= -4611686018427387904≤a.1∧a.1≤4611686018427387904∧ -4611686018427387904≤a.2∧a.2≤4611686018427387904
theorem val_sm(ts:List Tok)(k:Nat):AllR Sm (valP ts k):=fun a k1 h=>by
 unfold valP at h
 split at h
 ·
  exact quotP_small h
 exact numP_small2 h
theorem span_sm(ts:List Tok)(k:Nat):AllR (fun r=>Sm r.lo∧Sm r.hi) (spanP ts k):=by
 unfold spanP
 split
 ·
  exact allR_bind (val_sm _ _) (fun lo k1 h1=>allR_bind (allR_any _) (fun _ k2 _=>allR_bind (val_sm _ _) (fun hi k3 h3=>allR_bind (allR_any _) (fun _ k4 _=>allR_ok ⟨h1,h3⟩))))
 exact allR_bind (val_sm _ _) (fun v k1 h1=>allR_ok ⟨h1,h1⟩)
theorem decl_sm(ts:List Tok)(k:Nat):AllR (fun d=>d.s.length≤20∧Sm d.r.lo∧Sm d.r.hi) (declP nameP ts k):=by
 unfold declP;exact allR_bind (Q:=fun n=>n.length≤20) (fun n k1 h=>nmR_len h) (fun n k1 h1=>allR_bind (allR_any _) (fun _ k2 _=>allR_bind (span_sm _ _) (fun r k3 h3=>allR_bind (allR_any _) (fun _ k4 _=>allR_ok ⟨h1,h3⟩))))
def dcN(d:DcP):DcN:=⟨⟨d.s.toArray⟩,d.r.lo.1,d.r.lo.2,d.r.hi.1,d.r.hi.2⟩
theorem decl_in{ts:List Tok}{k k1:Nat}{d:DcP}(h:declP nameP ts k= .ok d k1)(w:World):InD w (dcN d):=by
 obtain⟨h1,⟨a1,a2,a3,a4⟩,b1,b2,b3,b4⟩:=decl_sm ts k d k1 h;refine⟨?_,?_⟩
 ·
  show R4 d.r.lo.1 d.r.lo.2 d.r.hi.1 d.r.hi.2
  constructor<;>omega
 show d.s.toArray.size≤maxLen
 rw[List.size_toArray];unfold maxLen
 omega
theorem pst34{w:World}{g:Nat}{t:TypeId}{a b c d e:Value}(hB:Blk w g t #[a,b,c,d,e])(d' e':Value):
 (w.setCell ⟨g,3,none⟩ d').setCell ⟨g,4,none⟩ e'=putB w g t #[a,b,c,d',e']:=by
 rw[show w.setCell ⟨g,3,none⟩ d'=putB w g t #[a,b,c,d',e]from hB.setCell_eq 3 d'];have h4:=hB.put #[a,b,c,d',e];rw[show(putB w g t #[a,b,c,d',e]).setCell ⟨g,4,none⟩ e'=putB (putB w g t #[a,b,c,d',e]) g t #[a,b,c,d',e']from h4.setCell_eq 4 e',putB_putB]
theorem pst_5_0{w:World}{g:Nat}{t:TypeId}{a b c d e:Value}(hB:Blk w g t #[a,b,c,d,e])(x:Value):w.setCell ⟨g,0,none⟩ x=putB w g t #[x,b,c,d,e]:=hB.setCell_eq 0 x
theorem pst_5_1{w:World}{g:Nat}{t:TypeId}{a b c d e:Value}(hB:Blk w g t #[a,b,c,d,e])(x:Value):w.setCell ⟨g,1,none⟩ x=putB w g t #[a,x,c,d,e]:=hB.setCell_eq 1 x
theorem pst_5_2{w:World}{g:Nat}{t:TypeId}{a b c d e:Value}(hB:Blk w g t #[a,b,c,d,e])(x:Value):w.setCell ⟨g,2,none⟩ x=putB w g t #[a,b,x,d,e]:=hB.setCell_eq 2 x
theorem Tryz.infoDecl:(Tryz.prog.info? 54).map (fun i=>(i.zero,i.size,i.bytes))=some (some (.agg #[.string ⟨#[]⟩,.i 0,.i 0,.i 0,.i 0]),5,48):=by kernel_rfl
theorem Tryz.infoMode:(Tryz.prog.info? 50).map (fun i=>(i.zero,i.size,i.bytes))=some (some (.agg #[.string ⟨#[]⟩,.sn,.sn]),3,64):=by kernel_rfl
def PbN.pl(x:PbN):PbP:=⟨x.st.map DcN.pl,x.pa.map DcN.pl,x.ms.map MdN.pl,(x.t,x.u)⟩
structure PzP (P:Nat→Prop) (w:World) (x:PbN):Prop where
  hs:LiL 5 DcN.cells PzD P w x.A x.n x.c x.st
  hp:LiL 5 DcN.cells PzD P w x.B x.m x.d x.pa
  hm:LiL 3 MdN.cells PzM P w x.C x.k x.e x.ms
  t1: -9223372036854775808≤x.t
  t2:x.t≤9223372036854775807
  u1: -9223372036854775808≤x.u
  u2:x.u≤9223372036854775807
theorem pzP:PzOk PzP:=⟨fun h hr hg=>⟨h.hs.mv pzD hr hg,h.hp.mv pzD hr hg,h.hm.mv pzM hr hg,h.t1,h.t2,h.u1,h.u2⟩,fun h hC=>⟨h.hs.weaken pzD hC,h.hp.weaken pzD hC,h.hm.weaken pzM hC,h.t1,h.t2,h.u1,h.u2⟩,fun h=>⟨h.hs.lt pzD,h.hp.lt pzD,h.hm.lt pzM,h.t1,h.t2,h.u1,h.u2⟩⟩
theorem PzP.toP{P:Nat→Prop}{w:World}{x:PbN}(h:PzP P w x):InP w x:=⟨inl_mono h.hs.il (fun z _ hz=>hz),inl_mono h.hp.il (fun z _ hz=>hz),inl_mono h.hm.il (fun z _ hz=>PzM.toM hz),h.t1,h.t2,h.u1,h.u2⟩
def PbV(d:PbP)(w:World)(e:Ending)(w':World):Prop:=∃x:PbN,e= .returned x.val∧x.pl=d∧Hid (PzP (fun b=>w.heap.size≤b) w' x)
theorem pProblem{w0 w:World}{g:Nat}{A:Option Addr}{len cap:Nat}{ts:List Tok}{k:Nat}(h:Env w0 g A len cap ts k 0 w)(hkl:k≤ts.length)(hR:RX w0)(hX:FX w0)(hD:DigTs ts):Calls Tryz.prog 25 #[.p g] w (PRP PbV w0 g A len cap ts 0 (probP nameP ts k) w):=by
 obtain⟨G,ex⟩:=eX (probP nameP ts k);have h2:=hI ex;rw[←ex];clear ex;have i6:ts.length≤100000:=(by have:=h.t.hl;have:=h.t.hs;omega)
 go_in
 go_upto_region 1 with(fail);generalize hw1:World.alloc _ _=w1;obtain⟨O1,F1⟩:=gn1 hw1;clear hw1;have P:=hI (show some w.heap.size≠some g from fun e=>by have:=h.gl;injection e with e;omega)
 have h3:w.heap.size≠g:=fun e=>P.o (by rw[e])
 have dd:w0.heap.size≤w.heap.size:=h.b.size;have ey:=hI (h.belowW O1.o);clear h
 go_upto_block 0 with(fail)
 generalize j:World.alloc _ _=wb1;obtain⟨ez,ga⟩:=gn1 j;clear j;obtain⟨i,d8⟩:=eX (w1.heap.size);have H:=hI (show some i≠some g from fun e=>by have:=ey.o.gl;injection e with e;omega);have a7:w.heap.size<i:=(by rw[d8];exact F1.o.lt);rw[←d8]at ga ⊢;have i7:g<i:=(by rw[d8];exact ey.o.gl);clear d8;go_wp2
 go_loopg [] (ts.length+1) (fun fu wr=>∃(F:Nat) (q y:List DcN) (sv pv:Value),Hid (G=(declsP nameP ts fu F (q.map DcN.pl) (y.map DcN.pl)).bind fun d k11=>(modesP nameP ts (ts.length+1) k11 []).bind fun ms k12=>(wantP ts true kTime k12).bind fun _ k13=>(valP ts k13).bind fun tm k14=>(wantP ts false [59] k14).bind fun _ k15=> .ok ⟨d.1,d.2,ms,tm⟩ k15)∧F≤ts.length∧ts.length<fu+F∧q.length≤F∧y.length≤F∧Hid (Env w0 g A len cap ts F 0 wr)∧Hid (w.grownBy wr (some g))∧Hid (Blk wr w.heap.size 44 #[.sn,.sn,.sn,.i 0,.i 0])∧Hid (Blk wr i 44 #[sv,pv,.sn,.i 0,.i 0])∧Hid (Mk2 54 5 DcN.cells PzD 54 5 DcN.cells PzD (i+1) wr sv q pv y))
 case atStart=>exact⟨k,[],[],.sn,.sn,(hI (show G=(declsP nameP ts (ts.length+1) k [] []).bind fun d k11=>(modesP nameP ts (ts.length+1) k11 []).bind fun ms k12=>(wantP ts true kTime k12).bind fun _ k13=>(valP ts k13).bind fun tm k14=>(wantP ts false [59] k14).bind fun _ k15=> .ok ⟨d.1,d.2,ms,tm⟩ k15 from h2.o)),hkl,by omega,by simp,by simp,(ey.o.b9 ez),(hI (grown_tr (grown_of (some g) O1.o) (grown_of (some g) ez.o))),(F1.o.b9 ez),ga,hI (Mk2.nil _ _ _ _ _ _ _ _ _ _)⟩
 obtain⟨F,q,y,sv,pv,HQ,i8,i9,ja,jb,h4,gb,gc,e1,b6⟩:=hrel
 cases gk with
 | zero=>exfalso;omega
 | succ fu=>
  have gd:=hI (World.grownBy.refl wr (some g));have ge:i<wr.heap.size:=e1.o.lt
  have ea:∀kb,sv.ownBlock=some kb→i+1≤kb∧kb<wr.heap.size:=fun kb h=>b6.o.a.own.lt kb h
  have eb:∀kb,pv.ownBlock=some kb→i+1≤kb∧kb<wr.heap.size:=fun kb h=>b6.o.b.own.lt kb h
  have de:=hI (pAccept h4.o (by omega) ⟨#[115,116,97,116,101]⟩);rw[show kwP (⟨#[115,116,97,116,101]⟩:ByteArray).data.toList=true by decide,show(⟨#[115,116,97,116,101]⟩:ByteArray).data.toList=kState from rfl]at de
  cases hb61:isS true ts F kState with
  | true=>
   have jc:=isS_lt hb61;rw[hb61]at de;have a8:=hI (show G=(declP nameP ts (F+1)).bind fun d9 k9=>(declsP nameP ts fu k9 (q.map DcN.pl++[d9]) (y.map DcN.pl)).bind fun d k11=>(modesP nameP ts (ts.length+1) k11 []).bind fun ms k12=>(wantP ts true kTime k12).bind fun _ k13=>(valP ts k13).bind fun tm k14=>(wantP ts false [59] k14).bind fun _ k15=> .ok ⟨d.1,d.2,ms,tm⟩ k15 by rw[HQ.o,declsP,hb61,if_pos rfl];exact bind_assoc' _ _ _);clear hb61;go_wp2_with fail;refine de.o.mono ?_;rintro e wa61 ⟨rfl,ar,b7⟩;simp only[if_true]at b7;have df:=hI (grown_tr gb.o ar.o);have dg:=hI (e1.o.grown ar.o H.o);have dh:=hI (grown_tr gd.o ar.o);have di:=hI (b6.o.moved pzD pzD (.inr ⟨g,rfl,by omega⟩) dh.o)
   have Q:∀b,sv.ownBlock=some b→i+1≤b:=fun b h=>(ea b h).1
   go_upto_region 3 with(fail);obtain⟨ln,co,er,C⟩ | ⟨d9,k9,C⟩:=pr_cases (decl_no (nm:=nameP) (ts:=ts) (F+1))
   ·
    have HE:=hI (show G= .bad ln co er by rw[a8.o,C]<;>rfl);have l:=hI (fun(w':World) (h':Env w0 g A len cap ts (F+1) 0 w')=>by have J:=pDecl h' (by omega) hR;rw[C]at J;exact J);clear C;have ec:=hI (below_dr wa61);have gf:=b7.o.b9 ec;have gg:=hI (grown_tr df.o (grown_of (some g) ec.o));have gh:=dg.o.b9 ec
    refine wp_region_held_drew (S:=fun w'=>cz5 w' i (sv) (pv) (.sn) (.i 0) (.i 0)) (by kernel_rfl) gh.o.cz5 fun hHeld=>?_
    obtain⟨h5,L⟩:=eX (wa61.drew);rw[←L]at ec gf gg gh hHeld ⊢;clear L;refine tkW 0 ?_;refine tkW 1 ?_;refine tkW 2 ?_
    refine wr1 3 fun K hK=>?_
    go_simp
    (with_reducible refine(l.o h5 gf.o).mono ?_)
    rintro e w1462 ⟨rfl,af⟩;clear hHeld;go_wp2_with fail;rw[HE.o];exact⟨rfl,prp_bad (hI (grown_tr gg.o af.o))⟩
   have jd:=(decl_fw (nm:=nameP) (ts:=ts) (F+1)) _ _ C;have h6:=hI (show G=(declsP nameP ts fu k9 (q.map DcN.pl++[d9]) (y.map DcN.pl)).bind fun d k11=>(modesP nameP ts (ts.length+1) k11 []).bind fun ms k12=>(wantP ts true kTime k12).bind fun _ k13=>(valP ts k13).bind fun tm k14=>(wantP ts false [59] k14).bind fun _ k15=> .ok ⟨d.1,d.2,ms,tm⟩ k15 by rw[a8.o,C]<;>rfl);have W:=hI (decl_in C w);have l:=hI (fun(w':World) (h':Env w0 g A len cap ts (F+1) 0 w')=>by have J:=pDecl h' (by omega) hR;rw[C]at J;exact J);clear C;have br:=hI (below_dr wa61);have e2:=b7.o.b9 br;have e3:=hI (grown_tr df.o (grown_of (some g) br.o));have dj:=hI ((gc.o.grown ar.o P.o).belowW br.o);have dk:=dg.o.b9 br;have e4:=hI (di.o.belowW pzD pzD br.o);have e6:=hI (Nat.le_trans (show wr.heap.size≤wa61.heap.size from dh.o.size) br.o.size)
   refine wp_region_held_drew (S:=fun w'=>w'.cell? ⟨w.heap.size,0,none⟩=some (.sn)) (by kernel_rfl) (dj.o.cell 0) fun hHeld=>?_
   obtain⟨gi,L⟩:=eX (wa61.drew);rw[←L]at br e2 e3 dj dk e4 e6 hHeld ⊢;clear L;refine tkW 0 ?_;refine tkW 2 ?_;refine wpAnyH_ready (rs:=[1,3]) (by kernel_rfl) (by simp) ?_;refine(AllReadyH.cons rfl (fun K hK=>?q1471_1) (AllReadyH.cons rfl (fun K hK=>?q1471_2) AllReadyH.nil))
   case' q1471_1=>
    have M:=dk.o.cell;have N:=dk.o.frozen;go_simp
    clear M N;clear hHeld
    refine hK.out _ _ (dj.o.cell 0) fun hHeld=>?_
    clear hK K
    try simp only[Lj,Lk,Lq]
    refine wr1 3 fun K hK=>?_
    go_simp
    (with_reducible refine(l.o gi e2.o).mono ?_)
    rintro e ag ⟨rfl,X,ah⟩;have b8:=hI (ah.o);have ca:=hI (grown_tr e3.o X.o);have ao:=hI (dj.o.grown X.o P.o);have dl:=hI (dk.o.grown X.o H.o);have cb:=hI (e4.o.moved pzD pzD (.inr ⟨g,rfl,by omega⟩) X.o);have dm:=hI (Nat.le_trans e6.o X.o.size);have e7:=hI (show PzD (fun b=>wr.heap.size≤b∧b<ag.heap.size) ag (dcN d9)from⟨W.o.r,W.o.hs⟩);go_wp2_with fail;clear hHeld
    refine hK.out _ _ (ao.o.cell 0) fun hHeld=>?_
    clear hK K
    try simp only[Lj,Lk,Lq]
    refine wr1 4 fun K hK=>?_
    go_simp;obtain⟨au,o,R,_⟩:=aX ag 54 #[.string ⟨d9.s.toArray⟩,.i d9.r.lo.1,.i d9.r.lo.2,.i d9.r.hi.1,.i d9.r.hi.2];have dn:=ao.o.b9 R;have e8:=hI (show PzD (fun b=>wr.heap.size≤b∧b<au.heap.size) au (dcN d9)from pzD.weaken (pzD.lt (pzD.mv e7.o (fun b hb e=>by cases e) (grown_none (Nat.le_refl _) R.o))) (fun b hb=>⟨hb.1.1,hb.2⟩));have e9:=hI (show Blk au ag.heap.size 54 (DcN.cells (dcN d9)).toArray by rw[o];exact Blk.new _ _ _);rw[←o];clear o;clear hHeld
    refine hK.out _ _ (dn.o.cell 0) fun hHeld=>?_
    clear hK K
    try simp only[Lj,Lk,Lq]
    obtain⟨gj,D⟩:=eX (au);have cc:=(b8.o.b9 R);have cd:=(hI (grown_tr ca.o (grown_of (some g) R.o)));have ce:=dn;have cf:=(dl.o.b9 R);have bs:=(hI (cb.o.belowW pzD pzD R.o));have bt:=(hI (Nat.le_trans dm.o R.o.size));have cg:=e8;have av:=e9;rw[←D]at cc cd ce cf bs bt cg av hHeld ⊢;clear D;obtain⟨ai,E⟩:=eX (ag.heap.size);rw[←E]at av ⊢;clear E
   case' q1471_2=>
    go_simp
    (with_reducible refine(l.o gi e2.o).mono ?_)
    rintro e w1472 ⟨rfl,Z,ah⟩;have ed:=hI (ah.o);have ee:=hI (grown_tr e3.o Z.o);have bu:=hI (dj.o.grown Z.o P.o);have aw:=hI (dk.o.grown Z.o H.o);have gm:=hI (e4.o.moved pzD pzD (.inr ⟨g,rfl,by omega⟩) Z.o);have gn:=hI (Nat.le_trans e6.o Z.o.size);have go:=hI (show PzD (fun b=>wr.heap.size≤b∧b<w1472.heap.size) w1472 (dcN d9)from⟨W.o.r,W.o.hs⟩);go_wp2_with fail;clear hHeld
    refine hK.out _ _ (bu.o.cell 0) fun hHeld=>?_
    clear hK K
    try simp only[Lj,Lk,Lq]
    refine wpAnyH_ready (rs:=[1,4]) (by kernel_rfl) (by simp) ?_;refine(AllReadyH.cons rfl (fun K hK=>?q1471_3) (AllReadyH.cons rfl (fun K hK=>?q1471_4) AllReadyH.nil))
    case' q1471_3=>
     have M:=aw.o.cell;have N:=aw.o.frozen;go_simp
     clear M N;clear hHeld
     refine hK.out _ _ (bu.o.cell 0) fun hHeld=>?_
     clear hK K
     try simp only[Lj,Lk,Lq]
     refine wr1 4 fun K hK=>?_
     go_simp;obtain⟨au,o,R,_⟩:=aX w1472 54 #[.string ⟨d9.s.toArray⟩,.i d9.r.lo.1,.i d9.r.lo.2,.i d9.r.hi.1,.i d9.r.hi.2];have dn:=bu.o.b9 R;have e8:=hI (show PzD (fun b=>wr.heap.size≤b∧b<au.heap.size) au (dcN d9)from pzD.weaken (pzD.lt (pzD.mv go.o (fun b hb e=>by cases e) (grown_none (Nat.le_refl _) R.o))) (fun b hb=>⟨hb.1.1,hb.2⟩));have e9:=hI (show Blk au w1472.heap.size 54 (DcN.cells (dcN d9)).toArray by rw[o];exact Blk.new _ _ _);rw[←o];clear o;clear hHeld
     refine hK.out _ _ (dn.o.cell 0) fun hHeld=>?_
     clear hK K
     try simp only[Lj,Lk,Lq]
     obtain⟨gj,D⟩:=eX (au);have cc:=(ed.o.b9 R);have cd:=(hI (grown_tr ee.o (grown_of (some g) R.o)));have ce:=dn;have cf:=(aw.o.b9 R);have bs:=(hI (gm.o.belowW pzD pzD R.o));have bt:=(hI (Nat.le_trans gn.o R.o.size));have cg:=e8;have av:=e9;rw[←D]at cc cd ce cf bs bt cg av hHeld ⊢;clear D;obtain⟨ai,E⟩:=eX (w1472.heap.size);rw[←E]at av ⊢;clear E
    case' q1471_4=>
     go_simp;obtain⟨ag,o,X,_⟩:=aX w1472 54 #[.string ⟨d9.s.toArray⟩,.i d9.r.lo.1,.i d9.r.lo.2,.i d9.r.hi.1,.i d9.r.hi.2];have b8:=ed.o.b9 X;have ca:=hI (grown_tr ee.o (grown_of (some g) X.o));have ao:=bu.o.b9 X;have dl:=aw.o.b9 X;have cb:=hI (gm.o.belowW pzD pzD X.o);have dm:=hI (Nat.le_trans gn.o X.o.size);have e7:=hI (show PzD (fun b=>wr.heap.size≤b∧b<ag.heap.size) ag (dcN d9)from pzD.weaken (pzD.lt (pzD.mv go.o (fun b hb e=>by cases e) (grown_none (Nat.le_refl _) X.o))) (fun b hb=>⟨hb.1.1,hb.2⟩));have h7:=hI (show Blk ag w1472.heap.size 54 (DcN.cells (dcN d9)).toArray by rw[o];exact Blk.new _ _ _);rw[←o];clear o;clear hHeld
     refine hK.out _ _ (ao.o.cell 0) fun hHeld=>?_
     clear hK K
     try simp only[Lj,Lk,Lq]
     refine wr1 1 fun K hK=>?_
     have M:=dl.o.cell;have N:=dl.o.frozen;go_simp
     clear M N;clear hHeld
     refine hK.out _ _ (ao.o.cell 0) fun hHeld=>?_
     clear hK K
     try simp only[Lj,Lk,Lq]
     obtain⟨gj,D⟩:=eX (ag);have cc:=b8;have cd:=ca;have ce:=ao;have cf:=dl;have bs:=cb;have bt:=dm;have cg:=e7;have av:=h7;rw[←D]at cc cd ce cf bs bt cg av hHeld ⊢;clear D;obtain⟨ai,E⟩:=eX (w1472.heap.size);rw[←E]at av ⊢;clear E
   all_goals
    refine wr1 5 fun K hK=>?_
    obtain⟨i0,ti,bb,bc,bd⟩:=info_parts Tryz.infoDecl;have be:∀u∈DcN.cells (dcN d9),u.oneCell'=true:=(by simp[DcN.cells,Value.oneCell'])
    refine if_wanted (by rfl) ?_;refine oper_append_mk _ _ _ rfl (avd_ok pzD) DcN.len5 rfl bs.o.a (show Avd (Own pv) PzD _ _ _ from pzD.weaken cg.o (fun b hb=>⟨⟨by omega,hb.2,fun e=>by have:=ea b e.symm;omega⟩,fun e=>by have:=eb b e;omega⟩)) i0 _ 48 Tryz.underlying39 ti bb bc bd rfl (by omega) (by omega) (by omega) ai _ rfl av.o be (Nat.le_trans ge bt.o) ?_;intro v9 w1472 hmk hgr hob;have bf:=hI hmk;have Z:=hI hgr;have fa:=hI hob;clear hmk hgr hob ti bb bc bd i0 be;obtain⟨A9,c9,bi,_⟩:=bf.o.lies (avd_ok pzD);obtain⟨L9,bk⟩:=eX ((q++[dcN d9]).length);rw[←bk]at bi;clear bk;subst bi
    try simp only[Act.put,Lj]
    have ed:=hI (env_row cc.o Z.o (fun b h=>by have:=Q b h;omega));have ee:=hI (grown_row cd.o Z.o (fun b h=>by have:=Q b h;omega));have bu:=hI (ce.o.grown Z.o (fun e=>by have:=Q _ e.symm;omega));have aw:=hI (cf.o.grown Z.o (fun e=>by have:=Q _ e.symm;omega));clear hHeld
    refine hK.out _ _ (bu.o.cell 0) fun hHeld=>?_
    clear hK K
    try simp only[Lj,Lk,Lq]
    refine tkW 6 ?_
    refine wr1 7 fun K hK=>?_
    have ps:=aw.o.cell;have fs:=aw.o.frozen;go_simp;rw[pst_5_0 aw.o];clear ps fs;obtain⟨bv,fb⟩:=eX (#[.l A9 L9 c9,pv,.sn,.i 0,.i 0]:Array Value);have b8:=hI (ed.o.far (r:=i) (fun e=>H.o (by rw[e])) (Nat.le_trans dd (Nat.le_of_lt a7)) 44 bv);have ca:=hI (grown_new ee.o (Nat.le_of_lt a7) 44 bv);have ao:=hI (bu.o.far (g':=i) (t':=44) (by omega) bv);have cb:=hI ((Mk2.pushed pzD bs.o bf.o Z.o fa.o).moved pzD pzD (.inr ⟨i,rfl,by omega⟩) (putB_grown w1472 i 44 bv));have dm:=hI (show wr.heap.size≤(putB w1472 i 44 bv).heap.size by rw[putB_size];exact(Nat.le_trans bt.o Z.o.size));have fc:=hI (aw.o.put bv);obtain⟨ag,j⟩:=eX (putB w1472 (i) 44 bv)
    try rw[←j]at b8
    try rw[←j]at ca
    try rw[←j]at ao
    try rw[←j]at cb
    try rw[←j]at dm
    try rw[←j]at fc
    rw[←fb];rw[←j];clear j hHeld;rw[fb]at fc;clear fb
    refine hK.out _ _ (ao.o.cell 0) fun hHeld=>?_
    clear hK K
    try simp only[Lj,Lk,Lq]
    refine wpAnyH_done (by kernel_rfl) ?_ _;go_wp2
    go_roundg fu
    case measure=>omega
    case rel=>exact⟨k9,q++[dcN d9],y,.l A9 L9 c9,pv,hI (by rw[h6.o,List.map_append];rfl),by omega,by omega,by rw[List.length_append];show q.length+1≤_;omega,by omega,b8,ca,ao,fc,cb⟩
  | false=>
   rw[hb61]at de;have ef:=hb61;clear hb61;go_wp2_with fail;refine de.o.mono ?_;rintro e wa61 ⟨rfl,ar,b7⟩;simp only[Bool.false_eq_true,if_false]at b7;have df:=hI (grown_tr gb.o ar.o);have gp:=hI (gc.o.grown ar.o P.o);have dg:=hI (e1.o.grown ar.o H.o);have dh:=hI (grown_tr gd.o ar.o);have dr:=hI (pAccept b7.o (by omega) ⟨#[112,97,114,97,109]⟩);rw[show kwP (⟨#[112,97,114,97,109]⟩:ByteArray).data.toList=true by decide,show(⟨#[112,97,114,97,109]⟩:ByteArray).data.toList=kParam from rfl]at dr
   cases hb63:isS true ts F kParam with
   | true=>
    have je:=isS_lt hb63;rw[hb63]at dr;have a8:=hI (show G=(declP nameP ts (F+1)).bind fun d9 k9=>(declsP nameP ts fu k9 (q.map DcN.pl) (y.map DcN.pl++[d9])).bind fun d k11=>(modesP nameP ts (ts.length+1) k11 []).bind fun ms k12=>(wantP ts true kTime k12).bind fun _ k13=>(valP ts k13).bind fun tm k14=>(wantP ts false [59] k14).bind fun _ k15=> .ok ⟨d.1,d.2,ms,tm⟩ k15 by rw[HQ.o,declsP,ef,if_neg (by decide),hb63,if_pos rfl];exact bind_assoc' _ _ _);clear hb63;go_wp2_with fail;refine dr.o.mono ?_;rintro e wa63 ⟨rfl,ax,ch⟩;simp only[if_true]at ch;have gq:=hI (grown_tr df.o ax.o);have ds:=hI (dg.o.grown ax.o H.o);have gr:=hI (grown_tr dh.o ax.o);clear ef;have di:=hI (b6.o.moved pzD pzD (.inr ⟨g,rfl,by omega⟩) gr.o)
    have Q:∀b,pv.ownBlock=some b→i+1≤b:=fun b h=>(eb b h).1
    go_upto_region 5 with(fail);obtain⟨ln,co,er,C⟩ | ⟨d9,k9,C⟩:=pr_cases (decl_no (nm:=nameP) (ts:=ts) (F+1))
    ·
     have HE:=hI (show G= .bad ln co er by rw[a8.o,C]<;>rfl);have l:=hI (fun(w':World) (h':Env w0 g A len cap ts (F+1) 0 w')=>by have J:=pDecl h' (by omega) hR;rw[C]at J;exact J);clear C;have eg:=hI (below_dr wa63);have gs:=ch.o.b9 eg;have gt:=hI (grown_tr gq.o (grown_of (some g) eg.o));have gu:=ds.o.b9 eg
     refine wp_region_held_drew (S:=fun w'=>cz5 w' i (sv) (pv) (.sn) (.i 0) (.i 0)) (by kernel_rfl) gu.o.cz5 fun hHeld=>?_
     obtain⟨h8,L⟩:=eX (wa63.drew);rw[←L]at eg gs gt gu hHeld ⊢;clear L;refine tkW 0 ?_;refine tkW 1 ?_;refine tkW 2 ?_
     refine wr1 3 fun K hK=>?_
     go_simp
     (with_reducible refine(l.o h8 gs.o).mono ?_)
     rintro e w1502 ⟨rfl,af⟩;clear hHeld;go_wp2_with fail;rw[HE.o];exact⟨rfl,prp_bad (hI (grown_tr gt.o af.o))⟩
    have jf:=(decl_fw (nm:=nameP) (ts:=ts) (F+1)) _ _ C;have ia:=hI (show G=(declsP nameP ts fu k9 (q.map DcN.pl) (y.map DcN.pl++[d9])).bind fun d k11=>(modesP nameP ts (ts.length+1) k11 []).bind fun ms k12=>(wantP ts true kTime k12).bind fun _ k13=>(valP ts k13).bind fun tm k14=>(wantP ts false [59] k14).bind fun _ k15=> .ok ⟨d.1,d.2,ms,tm⟩ k15 by rw[a8.o,C]<;>rfl);have W:=hI (decl_in C w);have l:=hI (fun(w':World) (h':Env w0 g A len cap ts (F+1) 0 w')=>by have J:=pDecl h' (by omega) hR;rw[C]at J;exact J);clear C;have bw:=hI (below_dr wa63);have fd:=ch.o.b9 bw;have fe:=hI (grown_tr gq.o (grown_of (some g) bw.o));have dt:=hI ((gp.o.grown ax.o P.o).belowW bw.o);have du:=ds.o.b9 bw;have ff:=hI (di.o.belowW pzD pzD bw.o);have fg:=hI (Nat.le_trans (show wr.heap.size≤wa63.heap.size from gr.o.size) bw.o.size)
    refine wp_region_held_drew (S:=fun w'=>w'.cell? ⟨w.heap.size,0,none⟩=some (.sn)) (by kernel_rfl) (dt.o.cell 0) fun hHeld=>?_
    obtain⟨gv,L⟩:=eX (wa63.drew);rw[←L]at bw fd fe dt du ff fg hHeld ⊢;clear L;refine tkW 0 ?_;refine tkW 2 ?_;refine wpAnyH_ready (rs:=[1,3]) (by kernel_rfl) (by simp) ?_;refine(AllReadyH.cons rfl (fun K hK=>?q1511_1) (AllReadyH.cons rfl (fun K hK=>?q1511_2) AllReadyH.nil))
    case' q1511_1=>
     have M:=du.o.cell;have N:=du.o.frozen;go_simp
     clear M N;clear hHeld
     refine hK.out _ _ (dt.o.cell 0) fun hHeld=>?_
     clear hK K
     try simp only[Lj,Lk,Lq]
     refine wr1 3 fun K hK=>?_
     go_simp
     (with_reducible refine(l.o gv fd.o).mono ?_)
     rintro e aj ⟨rfl,Y,ah⟩;have ci:=hI (ah.o);have cj:=hI (grown_tr fe.o Y.o);have ap:=hI (dt.o.grown Y.o P.o);have dv:=hI (du.o.grown Y.o H.o);have ck:=hI (ff.o.moved pzD pzD (.inr ⟨g,rfl,by omega⟩) Y.o);have dw:=hI (Nat.le_trans fg.o Y.o.size);have fh:=hI (show PzD (fun b=>wr.heap.size≤b∧b<aj.heap.size) aj (dcN d9)from⟨W.o.r,W.o.hs⟩);go_wp2_with fail;clear hHeld
     refine hK.out _ _ (ap.o.cell 0) fun hHeld=>?_
     clear hK K
     try simp only[Lj,Lk,Lq]
     refine wr1 4 fun K hK=>?_
     go_simp;obtain⟨ay,o,T,_⟩:=aX aj 54 #[.string ⟨d9.s.toArray⟩,.i d9.r.lo.1,.i d9.r.lo.2,.i d9.r.hi.1,.i d9.r.hi.2];have dx:=ap.o.b9 T;have fi:=hI (show PzD (fun b=>wr.heap.size≤b∧b<ay.heap.size) ay (dcN d9)from pzD.weaken (pzD.lt (pzD.mv fh.o (fun b hb e=>by cases e) (grown_none (Nat.le_refl _) T.o))) (fun b hb=>⟨hb.1.1,hb.2⟩));have fj:=hI (show Blk ay aj.heap.size 54 (DcN.cells (dcN d9)).toArray by rw[o];exact Blk.new _ _ _);rw[←o];clear o;clear hHeld
     refine hK.out _ _ (dx.o.cell 0) fun hHeld=>?_
     clear hK K
     try simp only[Lj,Lk,Lq]
     obtain⟨gw,D⟩:=eX (ay);have cl:=(ci.o.b9 T);have cm:=(hI (grown_tr cj.o (grown_of (some g) T.o)));have cn:=dx;have cp:=(dv.o.b9 T);have bx:=(hI (ck.o.belowW pzD pzD T.o));have bz:=(hI (Nat.le_trans dw.o T.o.size));have cq:=fi;have az:=fj;rw[←D]at cl cm cn cp bx bz cq az hHeld ⊢;clear D;obtain⟨ai,E⟩:=eX (aj.heap.size);rw[←E]at az ⊢;clear E
    case' q1511_2=>
     go_simp
     (with_reducible refine(l.o gv fd.o).mono ?_)
     rintro e w1512 ⟨rfl,aa,ah⟩;have eh:=hI (ah.o);have ei:=hI (grown_tr fe.o aa.o);have b0:=hI (dt.o.grown aa.o P.o);have a0:=hI (du.o.grown aa.o H.o);have gy:=hI (ff.o.moved pzD pzD (.inr ⟨g,rfl,by omega⟩) aa.o);have gz:=hI (Nat.le_trans fg.o aa.o.size);have g0:=hI (show PzD (fun b=>wr.heap.size≤b∧b<w1512.heap.size) w1512 (dcN d9)from⟨W.o.r,W.o.hs⟩);go_wp2_with fail;clear hHeld
     refine hK.out _ _ (b0.o.cell 0) fun hHeld=>?_
     clear hK K
     try simp only[Lj,Lk,Lq]
     refine wpAnyH_ready (rs:=[1,4]) (by kernel_rfl) (by simp) ?_;refine(AllReadyH.cons rfl (fun K hK=>?q1511_3) (AllReadyH.cons rfl (fun K hK=>?q1511_4) AllReadyH.nil))
     case' q1511_3=>
      have M:=a0.o.cell;have N:=a0.o.frozen;go_simp
      clear M N;clear hHeld
      refine hK.out _ _ (b0.o.cell 0) fun hHeld=>?_
      clear hK K
      try simp only[Lj,Lk,Lq]
      refine wr1 4 fun K hK=>?_
      go_simp;obtain⟨ay,o,T,_⟩:=aX w1512 54 #[.string ⟨d9.s.toArray⟩,.i d9.r.lo.1,.i d9.r.lo.2,.i d9.r.hi.1,.i d9.r.hi.2];have dx:=b0.o.b9 T;have fi:=hI (show PzD (fun b=>wr.heap.size≤b∧b<ay.heap.size) ay (dcN d9)from pzD.weaken (pzD.lt (pzD.mv g0.o (fun b hb e=>by cases e) (grown_none (Nat.le_refl _) T.o))) (fun b hb=>⟨hb.1.1,hb.2⟩));have fj:=hI (show Blk ay w1512.heap.size 54 (DcN.cells (dcN d9)).toArray by rw[o];exact Blk.new _ _ _);rw[←o];clear o;clear hHeld
      refine hK.out _ _ (dx.o.cell 0) fun hHeld=>?_
      clear hK K
      try simp only[Lj,Lk,Lq]
      obtain⟨gw,D⟩:=eX (ay);have cl:=(eh.o.b9 T);have cm:=(hI (grown_tr ei.o (grown_of (some g) T.o)));have cn:=dx;have cp:=(a0.o.b9 T);have bx:=(hI (gy.o.belowW pzD pzD T.o));have bz:=(hI (Nat.le_trans gz.o T.o.size));have cq:=fi;have az:=fj;rw[←D]at cl cm cn cp bx bz cq az hHeld ⊢;clear D;obtain⟨ai,E⟩:=eX (w1512.heap.size);rw[←E]at az ⊢;clear E
     case' q1511_4=>
      go_simp;obtain⟨aj,o,Y,_⟩:=aX w1512 54 #[.string ⟨d9.s.toArray⟩,.i d9.r.lo.1,.i d9.r.lo.2,.i d9.r.hi.1,.i d9.r.hi.2];have ci:=eh.o.b9 Y;have cj:=hI (grown_tr ei.o (grown_of (some g) Y.o));have ap:=b0.o.b9 Y;have dv:=a0.o.b9 Y;have ck:=hI (gy.o.belowW pzD pzD Y.o);have dw:=hI (Nat.le_trans gz.o Y.o.size);have fh:=hI (show PzD (fun b=>wr.heap.size≤b∧b<aj.heap.size) aj (dcN d9)from pzD.weaken (pzD.lt (pzD.mv g0.o (fun b hb e=>by cases e) (grown_none (Nat.le_refl _) Y.o))) (fun b hb=>⟨hb.1.1,hb.2⟩));have ib:=hI (show Blk aj w1512.heap.size 54 (DcN.cells (dcN d9)).toArray by rw[o];exact Blk.new _ _ _);rw[←o];clear o;clear hHeld
      refine hK.out _ _ (ap.o.cell 0) fun hHeld=>?_
      clear hK K
      try simp only[Lj,Lk,Lq]
      refine wr1 1 fun K hK=>?_
      have M:=dv.o.cell;have N:=dv.o.frozen;go_simp
      clear M N;clear hHeld
      refine hK.out _ _ (ap.o.cell 0) fun hHeld=>?_
      clear hK K
      try simp only[Lj,Lk,Lq]
      obtain⟨gw,D⟩:=eX (aj);have cl:=ci;have cm:=cj;have cn:=ap;have cp:=dv;have bx:=ck;have bz:=dw;have cq:=fh;have az:=ib;rw[←D]at cl cm cn cp bx bz cq az hHeld ⊢;clear D;obtain⟨ai,E⟩:=eX (w1512.heap.size);rw[←E]at az ⊢;clear E
    all_goals
     refine wr1 5 fun K hK=>?_
     obtain⟨i0,ti,bb,bc,bd⟩:=info_parts Tryz.infoDecl;have be:∀u∈DcN.cells (dcN d9),u.oneCell'=true:=(by simp[DcN.cells,Value.oneCell'])
     refine if_wanted (by rfl) ?_;refine oper_append_mk _ _ _ rfl (avd_ok pzD) DcN.len5 rfl bx.o.b (show Avd (Own sv) PzD _ _ _ from pzD.weaken cq.o (fun b hb=>⟨⟨by omega,hb.2,fun e=>by have:=eb b e.symm;omega⟩,fun e=>by have:=ea b e;omega⟩)) i0 _ 48 Tryz.underlying39 ti bb bc bd rfl (by omega) (by omega) (by omega) ai _ rfl az.o be (Nat.le_trans ge bz.o) ?_;intro v9 w1512 hmk hgr hob;have bf:=hI hmk;have aa:=hI hgr;have fa:=hI hob;clear hmk hgr hob ti bb bc bd i0 be;obtain⟨A9,c9,bi,_⟩:=bf.o.lies (avd_ok pzD);obtain⟨L9,bk⟩:=eX ((y++[dcN d9]).length);rw[←bk]at bi;clear bk;subst bi
     try simp only[Act.put,Lj]
     have eh:=hI (env_row cl.o aa.o (fun b h=>by have:=Q b h;omega));have ei:=hI (grown_row cm.o aa.o (fun b h=>by have:=Q b h;omega));have b0:=hI (cn.o.grown aa.o (fun e=>by have:=Q _ e.symm;omega));have a0:=hI (cp.o.grown aa.o (fun e=>by have:=Q _ e.symm;omega));clear hHeld
     refine hK.out _ _ (b0.o.cell 0) fun hHeld=>?_
     clear hK K
     try simp only[Lj,Lk,Lq]
     refine tkW 6 ?_
     refine wr1 7 fun K hK=>?_
     have ps:=a0.o.cell;have fs:=a0.o.frozen;go_simp;rw[pst_5_1 a0.o];clear ps fs;obtain⟨b1,fk⟩:=eX (#[sv,.l A9 L9 c9,.sn,.i 0,.i 0]:Array Value);have ci:=hI (eh.o.far (r:=i) (fun e=>H.o (by rw[e])) (Nat.le_trans dd (Nat.le_of_lt a7)) 44 b1);have cj:=hI (grown_new ei.o (Nat.le_of_lt a7) 44 b1);have ap:=hI (b0.o.far (g':=i) (t':=44) (by omega) b1);have ck:=hI (((Mk2.pushed pzD bx.o.swap bf.o aa.o fa.o).swap).moved pzD pzD (.inr ⟨i,rfl,by omega⟩) (putB_grown w1512 i 44 b1));have dw:=hI (show wr.heap.size≤(putB w1512 i 44 b1).heap.size by rw[putB_size];exact(Nat.le_trans bz.o aa.o.size));have fl:=hI (a0.o.put b1);obtain⟨aj,j⟩:=eX (putB w1512 (i) 44 b1)
     try rw[←j]at ci
     try rw[←j]at cj
     try rw[←j]at ap
     try rw[←j]at ck
     try rw[←j]at dw
     try rw[←j]at fl
     rw[←fk];rw[←j];clear j hHeld;rw[fk]at fl;clear fk
     refine hK.out _ _ (ap.o.cell 0) fun hHeld=>?_
     clear hK K
     try simp only[Lj,Lk,Lq]
     refine wpAnyH_done (by kernel_rfl) ?_ _;go_wp2
     go_roundg fu
     case measure=>omega
     case rel=>exact⟨k9,q,y++[dcN d9],sv,.l A9 L9 c9,hI (by rw[ia.o,List.map_append];rfl),by omega,by omega,by omega,by rw[List.length_append];show y.length+1≤_;omega,ci,cj,ap,fl,ck⟩
   | false=>
    rw[hb63]at dr;have ej:=hI (show G=(modesP nameP ts (ts.length+1) F []).bind fun ms k12=>(wantP ts true kTime k12).bind fun _ k13=>(valP ts k13).bind fun tm k14=>(wantP ts false [59] k14).bind fun _ k15=> .ok ⟨q.map DcN.pl,y.map DcN.pl,ms,tm⟩ k15 by rw[HQ.o,declsP,ef,if_neg (by decide),hb63,if_neg (by decide)];rfl);clear hb63;go_wp2_with fail;refine dr.o.mono ?_;rintro e wa63 ⟨rfl,ax,ch⟩;simp only[Bool.false_eq_true,if_false]at ch;have ds:=hI (dg.o.grown ax.o H.o);have dy:=hI (b6.o.moved pzD pzD (.inr ⟨g,rfl,by omega⟩) (grown_tr dh.o ax.o));obtain⟨A5,c5,B5,d5,ic,id,g1,g2⟩:=dy.o.lies pzD pzD;obtain⟨lo,g3⟩:=eX (wa63.heap.size);have jg:i+1≤lo:=(by rw[g3];exact ds.o.lt);have fm:=hI (g1.lt pzD);have fn:=hI (g2.lt pzD);rw[←g3]at fm fn;clear g1 g2 dy b6 ea eb ef;subst ic id;go_wp2
    go_loopg [] (ts.length+1) (fun fu wr=>∃(U:Nat) (ms:List MdN) (mv:Value),Hid (G=(modesP nameP ts fu U (ms.map MdN.pl)).bind fun ms k12=>(wantP ts true kTime k12).bind fun _ k13=>(valP ts k13).bind fun tm k14=>(wantP ts false [59] k14).bind fun _ k15=> .ok ⟨q.map DcN.pl,y.map DcN.pl,ms,tm⟩ k15)∧U≤ts.length∧ts.length<fu+U∧ms.length≤U∧Hid (Env w0 g A len cap ts U 0 wr)∧Hid (w.grownBy wr (some g))∧Hid (Blk wr w.heap.size 44 #[.sn,.sn,.sn,.i 0,.i 0])∧Hid (Blk wr i 44 #[.l A5 q.length c5,.l B5 y.length d5,mv,.i 0,.i 0])∧Hid (Mk 50 3 MdN.cells PzM lo wr mv ms)∧Hid (LiL 5 DcN.cells PzD (fun b=>i+1≤b∧b<lo) wr A5 q.length c5 q)∧Hid (LiL 5 DcN.cells PzD (fun b=>i+1≤b∧b<lo) wr B5 y.length d5 y)∧lo≤wr.heap.size)
    case atStart=>exact⟨F,[],.sn,ej,by omega,by omega,by simp,ch,(hI (grown_tr df.o ax.o)),(hI (gp.o.grown ax.o P.o)),ds,hI (Mk.nil _ _ _ _ _ _),fm,fn,by omega⟩
    clear fm fn;obtain⟨U,ms,mv,g4,jh,ji,jj,ie,g5,g6,fo,ek,g7,g8,g9⟩:=hrel
    cases gk with
    | zero=>exfalso;omega
    | succ fu=>
     have ha:=hI (World.grownBy.refl wr (some g));have jk:i<wr.heap.size:=fo.o.lt
     have fp:∀kb,mv.ownBlock=some kb→lo≤kb∧kb<wr.heap.size:=fun kb h=>ek.o.own.lt kb h
     have dz:=hI (pAccept ie.o (by omega) ⟨#[109,111,100,101]⟩);rw[show kwP (⟨#[109,111,100,101]⟩:ByteArray).data.toList=true by decide,show(⟨#[109,111,100,101]⟩:ByteArray).data.toList=kMode from rfl]at dz
     cases hb81:isS true ts U kMode with
     | true=>
      have jl:=isS_lt hb81;rw[hb81]at dz;have a8:=hI (show G=(modeP nameP ts (U+1)).bind fun x k9=>(modesP nameP ts fu k9 (ms.map MdN.pl++[x])).bind fun ms k12=>(wantP ts true kTime k12).bind fun _ k13=>(valP ts k13).bind fun tm k14=>(wantP ts false [59] k14).bind fun _ k15=> .ok ⟨q.map DcN.pl,y.map DcN.pl,ms,tm⟩ k15 by rw[g4.o,modesP,hb81,if_pos rfl];exact bind_assoc' _ _ _);clear hb81;go_wp2_with fail;refine dz.o.mono ?_;rintro e wa81 ⟨rfl,a1,ct⟩;simp only[if_true]at ct;have d0:=hI (grown_tr g5.o a1.o);have hc:=hI (fo.o.grown a1.o H.o);have bp:=hI (grown_tr ha.o a1.o);have di:=hI (ek.o.moved pzM (.inr ⟨g,rfl,by omega⟩) bp.o)
      have Q:∀b,mv.ownBlock=some b→lo≤b:=fun b h=>(fp b h).1
      have ig:=hI (g7.o.mv pzD (fun b hb e=>by injection e with e;omega) bp.o);have ii:=hI (g8.o.mv pzD (fun b hb e=>by injection e with e;omega) bp.o);go_upto_region 7 with(fail);obtain⟨ln,co,er,C⟩ | ⟨x,k9,C⟩:=pr_cases (mode_no (nm:=nameP) (ts:=ts) (U+1))
      ·
       have HE:=hI (show G= .bad ln co er by rw[a8.o,C]<;>rfl);have l:=hI (fun(w':World) (h':Env w0 g A len cap ts (U+1) 0 w')=>by have J:=pMode h' (by omega) hR hX hD;rw[C]at J;exact J);clear C;have el:=hI (below_dr wa81);have hd:=ct.o.b9 el;have he:=hI (grown_tr d0.o (grown_of (some g) el.o));have hf:=hc.o.b9 el
       refine wp_region_held_drew (S:=fun w'=>cz5 w' i (.l A5 q.length c5) (.l B5 y.length d5) (mv) (.i 0) (.i 0)) (by kernel_rfl) hf.o.cz5 fun hHeld=>?_
       obtain⟨ij,L⟩:=eX (wa81.drew);rw[←L]at el hd he hf hHeld ⊢;clear L;refine tkW 0 ?_;refine tkW 1 ?_;refine tkW 2 ?_
       refine wr1 3 fun K hK=>?_
       go_simp
       (with_reducible refine(l.o ij hd.o).mono ?_)
       rintro e w1862 ⟨rfl,af⟩;clear hHeld;go_wp2_with fail;rw[HE.o];exact⟨rfl,prp_bad (hI (grown_tr he.o af.o))⟩
      have ik:=(mode_fw (nm:=nameP) (ts:=ts) (U+1)) _ _ C;have em:=hI (show G=(modesP nameP ts fu k9 (ms.map MdN.pl++[x])).bind fun ms k12=>(wantP ts true kTime k12).bind fun _ k13=>(valP ts k13).bind fun tm k14=>(wantP ts false [59] k14).bind fun _ k15=> .ok ⟨q.map DcN.pl,y.map DcN.pl,ms,tm⟩ k15 by rw[a8.o,C]<;>rfl);have l:=hI (fun(w':World) (h':Env w0 g A len cap ts (U+1) 0 w')=>by have J:=pMode h' (by omega) hR hX hD;rw[C]at J;exact J);clear C;have a2:=hI (below_dr wa81);have fq:=ct.o.b9 a2;have ft:=hI (grown_tr d0.o (grown_of (some g) a2.o));have d1:=hI ((g6.o.grown a1.o P.o).belowW a2.o);have d2:=hc.o.b9 a2;have fv:=hI (di.o.belowW pzM a2.o);have d3:=hI (Nat.le_trans (show wr.heap.size≤wa81.heap.size from bp.o.size) a2.o.size);have fw:=hI (ig.o.mv pzD (fun b hb e=>by cases e) (grown_none (Nat.le_refl _) a2.o));have fy:=hI (ii.o.mv pzD (fun b hb e=>by cases e) (grown_none (Nat.le_refl _) a2.o))
      refine wp_region_held_drew (S:=fun w'=>w'.cell? ⟨w.heap.size,0,none⟩=some (.sn)) (by kernel_rfl) (d1.o.cell 0) fun hHeld=>?_
      obtain⟨hg,L⟩:=eX (wa81.drew);rw[←L]at a2 fq ft d1 d2 fv d3 fw fy hHeld ⊢;clear L;refine tkW 0 ?_;refine tkW 2 ?_;refine wpAnyH_ready (rs:=[1,3]) (by kernel_rfl) (by simp) ?_;refine(AllReadyH.cons rfl (fun K hK=>?q1871_1) (AllReadyH.cons rfl (fun K hK=>?q1871_2) AllReadyH.nil))
      case' q1871_1=>
       have M:=d2.o.cell;have N:=d2.o.frozen;go_simp
       clear M N;clear hHeld
       refine hK.out _ _ (d1.o.cell 0) fun hHeld=>?_
       clear hK K
       try simp only[Lj,Lk,Lq]
       refine wr1 3 fun K hK=>?_
       go_simp
       (with_reducible refine(l.o hg fq.o).mono ?_)
       rintro e ak ⟨⟨p,rfl,d4,W⟩,O,ah⟩;have cu:=hI (ah.o);have cv:=hI (grown_tr ft.o O.o);have aq:=hI (d1.o.grown O.o P.o);have d6:=hI (d2.o.grown O.o H.o);have cw:=hI (fv.o.moved pzM (.inr ⟨g,rfl,by omega⟩) O.o);have cy:=hI (Nat.le_trans d3.o O.o.size);have cz:=hI (fw.o.mv pzD (fun b hb e=>by injection e with e;omega) O.o);have c0:=hI (fy.o.mv pzD (fun b hb e=>by injection e with e;omega) O.o);have fz:=hI (show PzM (fun b=>wr.heap.size≤b∧b<ak.heap.size) ak (p)from pzM.weaken (pzM.lt W.o) (fun b hb=>⟨Nat.le_trans d3.o hb.1,hb.2⟩));have hh:=hI d4;clear d4;go_wp2_with fail;clear hHeld
       refine hK.out _ _ (aq.o.cell 0) fun hHeld=>?_
       clear hK K
       try simp only[Lj,Lk,Lq]
       refine wr1 4 fun K hK=>?_
       go_simp;obtain⟨a3,o,I,_⟩:=aX ak 50 #[.string p.s,.l p.A p.n p.c,.l p.B p.m p.d];have d7:=aq.o.b9 I;have f0:=hI (cz.o.mv pzD (fun b hb e=>by cases e) (grown_none (Nat.le_refl _) I.o));have f1:=hI (c0.o.mv pzD (fun b hb e=>by cases e) (grown_none (Nat.le_refl _) I.o));have f2:=hI (show PzM (fun b=>wr.heap.size≤b∧b<a3.heap.size) a3 (p)from pzM.weaken (pzM.lt (pzM.mv fz.o (fun b hb e=>by cases e) (grown_none (Nat.le_refl _) I.o))) (fun b hb=>⟨hb.1.1,hb.2⟩));have f3:=hI (show Blk a3 ak.heap.size 50 (MdN.cells (p)).toArray by rw[o];exact Blk.new _ _ _);rw[←o];clear o;clear hHeld
       refine hK.out _ _ (d7.o.cell 0) fun hHeld=>?_
       clear hK K
       try simp only[Lj,Lk,Lq]
       obtain⟨hj,D⟩:=eX (a3);have c1:=(cu.o.b9 I);have c2:=(hI (grown_tr cv.o (grown_of (some g) I.o)));have c3:=d7;have c4:=(d6.o.b9 I);have c6:=(hI (cw.o.belowW pzM I.o));have b3:=(hI (Nat.le_trans cy.o I.o.size));have c7:=f0;have c8:=f1;have da:=f2;have a4:=f3;rw[←D]at c1 c2 c3 c4 c6 b3 c7 c8 da a4 hHeld ⊢;clear D;obtain⟨ai,E⟩:=eX (ak.heap.size);rw[←E]at a4 ⊢;clear E
      case' q1871_2=>
       go_simp
       (with_reducible refine(l.o hg fq.o).mono ?_)
       rintro e w1872 ⟨⟨p,rfl,d4,W⟩,V,ah⟩;have en:=hI (ah.o);have eo:=hI (grown_tr ft.o V.o);have b4:=hI (d1.o.grown V.o P.o);have a5:=hI (d2.o.grown V.o H.o);have hk:=hI (fv.o.moved pzM (.inr ⟨g,rfl,by omega⟩) V.o);have hm:=hI (Nat.le_trans d3.o V.o.size);have ep:=hI (fw.o.mv pzD (fun b hb e=>by injection e with e;omega) V.o);have eq:=hI (fy.o.mv pzD (fun b hb e=>by injection e with e;omega) V.o);have ho:=hI (show PzM (fun b=>wr.heap.size≤b∧b<w1872.heap.size) w1872 (p)from pzM.weaken (pzM.lt W.o) (fun b hb=>⟨Nat.le_trans d3.o hb.1,hb.2⟩));have hh:=hI d4;clear d4;go_wp2_with fail;clear hHeld
       refine hK.out _ _ (b4.o.cell 0) fun hHeld=>?_
       clear hK K
       try simp only[Lj,Lk,Lq]
       refine wpAnyH_ready (rs:=[1,4]) (by kernel_rfl) (by simp) ?_;refine(AllReadyH.cons rfl (fun K hK=>?q1871_3) (AllReadyH.cons rfl (fun K hK=>?q1871_4) AllReadyH.nil))
       case' q1871_3=>
        have M:=a5.o.cell;have N:=a5.o.frozen;go_simp
        clear M N;clear hHeld
        refine hK.out _ _ (b4.o.cell 0) fun hHeld=>?_
        clear hK K
        try simp only[Lj,Lk,Lq]
        refine wr1 4 fun K hK=>?_
        go_simp;obtain⟨a3,o,I,_⟩:=aX w1872 50 #[.string p.s,.l p.A p.n p.c,.l p.B p.m p.d];have d7:=b4.o.b9 I;have f0:=hI (ep.o.mv pzD (fun b hb e=>by cases e) (grown_none (Nat.le_refl _) I.o));have f1:=hI (eq.o.mv pzD (fun b hb e=>by cases e) (grown_none (Nat.le_refl _) I.o));have f2:=hI (show PzM (fun b=>wr.heap.size≤b∧b<a3.heap.size) a3 (p)from pzM.weaken (pzM.lt (pzM.mv ho.o (fun b hb e=>by cases e) (grown_none (Nat.le_refl _) I.o))) (fun b hb=>⟨hb.1.1,hb.2⟩));have f3:=hI (show Blk a3 w1872.heap.size 50 (MdN.cells (p)).toArray by rw[o];exact Blk.new _ _ _);rw[←o];clear o;clear hHeld
        refine hK.out _ _ (d7.o.cell 0) fun hHeld=>?_
        clear hK K
        try simp only[Lj,Lk,Lq]
        obtain⟨hj,D⟩:=eX (a3);have c1:=(en.o.b9 I);have c2:=(hI (grown_tr eo.o (grown_of (some g) I.o)));have c3:=d7;have c4:=(a5.o.b9 I);have c6:=(hI (hk.o.belowW pzM I.o));have b3:=(hI (Nat.le_trans hm.o I.o.size));have c7:=f0;have c8:=f1;have da:=f2;have a4:=f3;rw[←D]at c1 c2 c3 c4 c6 b3 c7 c8 da a4 hHeld ⊢;clear D;obtain⟨ai,E⟩:=eX (w1872.heap.size);rw[←E]at a4 ⊢;clear E
       case' q1871_4=>
        go_simp;obtain⟨ak,o,O,_⟩:=aX w1872 50 #[.string p.s,.l p.A p.n p.c,.l p.B p.m p.d];have cu:=en.o.b9 O;have cv:=hI (grown_tr eo.o (grown_of (some g) O.o));have aq:=b4.o.b9 O;have d6:=a5.o.b9 O;have cw:=hI (hk.o.belowW pzM O.o);have cy:=hI (Nat.le_trans hm.o O.o.size);have cz:=hI (ep.o.mv pzD (fun b hb e=>by cases e) (grown_none (Nat.le_refl _) O.o));have c0:=hI (eq.o.mv pzD (fun b hb e=>by cases e) (grown_none (Nat.le_refl _) O.o));have fz:=hI (show PzM (fun b=>wr.heap.size≤b∧b<ak.heap.size) ak (p)from pzM.weaken (pzM.lt (pzM.mv ho.o (fun b hb e=>by cases e) (grown_none (Nat.le_refl _) O.o))) (fun b hb=>⟨hb.1.1,hb.2⟩));have il:=hI (show Blk ak w1872.heap.size 50 (MdN.cells (p)).toArray by rw[o];exact Blk.new _ _ _);rw[←o];clear o;clear hHeld
        refine hK.out _ _ (aq.o.cell 0) fun hHeld=>?_
        clear hK K
        try simp only[Lj,Lk,Lq]
        refine wr1 1 fun K hK=>?_
        have M:=d6.o.cell;have N:=d6.o.frozen;go_simp
        clear M N;clear hHeld
        refine hK.out _ _ (aq.o.cell 0) fun hHeld=>?_
        clear hK K
        try simp only[Lj,Lk,Lq]
        obtain⟨hj,D⟩:=eX (ak);have c1:=cu;have c2:=cv;have c3:=aq;have c4:=d6;have c6:=cw;have b3:=cy;have c7:=cz;have c8:=c0;have da:=fz;have a4:=il;rw[←D]at c1 c2 c3 c4 c6 b3 c7 c8 da a4 hHeld ⊢;clear D;obtain⟨ai,E⟩:=eX (w1872.heap.size);rw[←E]at a4 ⊢;clear E
      all_goals
       refine wr1 5 fun K hK=>?_
       obtain⟨i0,ti,bb,bc,bd⟩:=info_parts Tryz.infoMode;have be:∀u∈MdN.cells (p),u.oneCell'=true:=(by simp[MdN.cells,Value.oneCell'])
       refine if_wanted (by rfl) ?_;refine oper_append_mk _ _ _ rfl pzM MdN.len3 rfl c6.o (pzM.weaken da.o (fun b hb=>⟨by omega,hb.2,fun e=>by have:=fp b e.symm;omega⟩)) i0 _ 64 Tryz.underlying40 ti bb bc bd rfl (by omega) (by omega) (by omega) ai _ rfl a4.o be (Nat.le_trans g9 b3.o) ?_;intro v9 w1872 hmk hgr hob;have bf:=hI hmk;have V:=hI hgr;clear hmk hgr hob ti bb bc bd i0 be;obtain⟨A9,c9,bi,_⟩:=bf.o.lies pzM;obtain⟨L9,bk⟩:=eX ((ms++[p]).length);rw[←bk]at bi;clear bk;subst bi
       try simp only[Act.put,Lj]
       have en:=hI (env_row c1.o V.o (fun b h=>by have:=Q b h;omega));have eo:=hI (grown_row c2.o V.o (fun b h=>by have:=Q b h;omega));have b4:=hI (c3.o.grown V.o (fun e=>by have:=Q _ e.symm;omega));have a5:=hI (c4.o.grown V.o (fun e=>by have:=Q _ e.symm;omega));have ep:=hI (c7.o.mv pzD (fun b hb e=>by have:=Q b e.symm;omega) V.o);have eq:=hI (c8.o.mv pzD (fun b hb e=>by have:=Q b e.symm;omega) V.o);clear hHeld
       refine hK.out _ _ (b4.o.cell 0) fun hHeld=>?_
       clear hK K
       try simp only[Lj,Lk,Lq]
       refine tkW 6 ?_
       refine wr1 7 fun K hK=>?_
       have ps:=a5.o.cell;have fs:=a5.o.frozen;go_simp;rw[pst_5_2 a5.o];clear ps fs;obtain⟨a6,f4⟩:=eX (#[.l A5 q.length c5,.l B5 y.length d5,.l A9 L9 c9,.i 0,.i 0]:Array Value);have cu:=hI (en.o.far (r:=i) (fun e=>H.o (by rw[e])) (Nat.le_trans dd (Nat.le_of_lt a7)) 44 a6);have cv:=hI (grown_new eo.o (Nat.le_of_lt a7) 44 a6);have aq:=hI (b4.o.far (g':=i) (t':=44) (by omega) a6);have cw:=hI ((bf.o).moved pzM (.inr ⟨i,rfl,by omega⟩) (putB_grown w1872 i 44 a6));have cy:=hI (show wr.heap.size≤(putB w1872 i 44 a6).heap.size by rw[putB_size];exact(Nat.le_trans b3.o V.o.size));have cz:=hI (ep.o.mv pzD (r:=some i) (fun b hb e=>by injection e with e;omega) (putB_grown w1872 i 44 a6));have c0:=hI (eq.o.mv pzD (r:=some i) (fun b hb e=>by injection e with e;omega) (putB_grown w1872 i 44 a6));have f5:=hI (a5.o.put a6);obtain⟨ak,j⟩:=eX (putB w1872 (i) 44 a6)
       try rw[←j]at cu
       try rw[←j]at cv
       try rw[←j]at aq
       try rw[←j]at cw
       try rw[←j]at cy
       try rw[←j]at cz
       try rw[←j]at c0
       try rw[←j]at f5
       rw[←f4];rw[←j];clear j hHeld;rw[f4]at f5;clear f4
       refine hK.out _ _ (aq.o.cell 0) fun hHeld=>?_
       clear hK K
       try simp only[Lj,Lk,Lq]
       refine wpAnyH_done (by kernel_rfl) ?_ _;go_wp2
       go_roundg fu
       case measure=>omega
       case rel=>exact⟨k9,ms++[p],.l A9 L9 c9,hI (by rw[em.o,List.map_append,←hh.o];rfl),by omega,by omega,by rw[List.length_append];show ms.length+1≤_;omega,cu,cv,aq,f5,cw,cz,c0,Nat.le_trans g9 cy.o⟩
     | false=>
      rw[hb81]at dz;have ej:=hI (show G=(wantP ts true kTime U).bind fun _ k13=>(valP ts k13).bind fun tm k14=>(wantP ts false [59] k14).bind fun _ k15=> .ok ⟨q.map DcN.pl,y.map DcN.pl,ms.map MdN.pl,tm⟩ k15 by rw[g4.o,modesP,hb81,if_neg (by decide)];rfl);clear hb81;go_wp2_with fail;refine dz.o.mono ?_;rintro e wa81 ⟨rfl,a1,ct⟩;simp only[Bool.false_eq_true,if_false]at ct;have d0:=hI (grown_tr g5.o a1.o);have bp:=hI (grown_tr ha.o a1.o);have dy:=hI (ek.o.moved pzM (.inr ⟨g,rfl,by omega⟩) bp.o);obtain⟨C5,e5,im,hp⟩:=dy.o.lies pzM;have io:=hI hp;have ip:=hI (g7.o.mv pzD (fun b hb e=>by injection e with e;omega) bp.o);have iq:=hI (g8.o.mv pzD (fun b hb e=>by injection e with e;omega) bp.o);clear hp dy ek fp;subst im;have l:=hI (pWant ct.o (by omega) kTime true (by decide))
      cases hn83:wantP ts true kTime U with
      | out=>
       rw[hn83]at l;clear hn83;go_wp2_with fail;refine l.o.mono ?_;rintro e w9 hx
       exact hx.elim
      | bad ln co er=>
       rw[hn83]at l;have HE:=hI (show G= .bad ln co er by rw[ej.o,hn83]<;>rfl);clear hn83;go_wp2_with fail;refine l.o.mono ?_;rintro e w9 ⟨rfl,af⟩;go_wp2_with fail;rw[HE.o]
       exact⟨rfl,prp_bad (hI (grown_tr d0.o af.o))⟩
      | ok u3 k13=>
       rw[hn83]at l;have ik:=(want_fw (ts:=ts) true kTime U) _ _ hn83;have em:=hI (show G=(valP ts k13).bind fun tm k14=>(wantP ts false [59] k14).bind fun _ k15=> .ok ⟨q.map DcN.pl,y.map DcN.pl,ms.map MdN.pl,tm⟩ k15 by rw[ej.o,hn83]<;>rfl);clear hn83;go_wp2_with fail;refine l.o.mono ?_;rintro e wq83 ⟨hx,db,ir⟩
       cases hx
       have hq:=hI (grown_tr d0.o db.o);have is:=hI (ip.o.mv pzD (fun b hb e=>by injection e with e;omega) db.o);have it:=hI (iq.o.mv pzD (fun b hb e=>by injection e with e;omega) db.o);have iu:=hI (io.o.mv pzM (fun b hb e=>by injection e with e;omega) db.o);have l:=hI (pValue ir.o (by omega) hR)
       cases hn84:valP ts k13 with
       | out=>
        rw[hn84]at l;clear hn84;go_wp2_with fail;refine l.o.mono ?_;rintro e w9 hx
        exact hx.elim
       | bad ln co er=>
        rw[hn84]at l;have HE:=hI (show G= .bad ln co er by rw[em.o,hn84]<;>rfl);clear hn84;go_wp2_with fail;refine l.o.mono ?_;rintro e w9 ⟨rfl,af⟩;go_wp2_with fail;rw[HE.o]
        exact⟨rfl,prp_bad (hI (grown_tr hq.o af.o))⟩
       | ok tm k14=>
        rw[hn84]at l;have jm:=(val_fw (ts:=ts) k13) _ _ hn84;have hr:=hI (show G=(wantP ts false [59] k14).bind fun _ k15=> .ok ⟨q.map DcN.pl,y.map DcN.pl,ms.map MdN.pl,tm⟩ k15 by rw[em.o,hn84]<;>rfl);obtain⟨jn,jo,jp,jq⟩:=val_sm ts k13 tm k14 hn84;clear hn84;go_wp2_with fail;refine l.o.mono ?_;rintro e wq84 ⟨hx,dc,iv⟩
        cases hx
        have eu:=hI (((fo.o.grown a1.o H.o).grown db.o H.o).grown dc.o H.o);have iw:=hI (is.o.mv pzD (fun b hb e=>by injection e with e;omega) dc.o);have ix:=hI (it.o.mv pzD (fun b hb e=>by injection e with e;omega) dc.o);have iy:=hI (iu.o.mv pzM (fun b hb e=>by injection e with e;omega) dc.o);have cx:=eu.o.cell;have fx:=eu.o.frozen;go_upto_region 10 with(fail);rw[pst34 eu.o];obtain⟨bq,f6⟩:=eX (#[.l A5 q.length c5,.l B5 y.length d5,.l C5 ms.length e5,.i tm.1,.i tm.2]:Array Value);have ev:=hI (eu.o.put bq);have f7:=hI (grown_new (grown_tr hq.o dc.o) (Nat.le_of_lt a7) 44 bq);have hv:=hI (iv.o.far (r:=i) (fun e=>H.o (by rw[e])) (Nat.le_trans dd (Nat.le_of_lt a7)) 44 bq);have hy:=hI ((((g6.o.grown a1.o P.o).grown db.o P.o).grown dc.o P.o).far (g':=i) (t':=44) (by omega) bq);have hz:=hI (iw.o.mv pzD (r:=some i) (fun b hb e=>by injection e with e;omega) (putB_grown wq84 i 44 bq));have h0:=hI (ix.o.mv pzD (r:=some i) (fun b hb e=>by injection e with e;omega) (putB_grown wq84 i 44 bq));have h1:=hI (iy.o.mv pzM (r:=some i) (fun b hb e=>by injection e with e;omega) (putB_grown wq84 i 44 bq));obtain⟨iz,j⟩:=eX (putB wq84 i 44 bq);have jr:wq84.heap.size≤iz.heap.size:=(by rw[j,putB_size];exact Nat.le_refl _);rw[←f6];rw[←j]at f7 hv hy ev hz h0 h1 ⊢;clear j cx fx;rw[f6]at ev;clear f6;have l:=hI (pWant hv.o (by omega) [59] false (by decide))
        cases hn86:wantP ts false [59] k14 with
        | out=>
         rw[hn86]at l;clear hn86;go_wp2_with fail;refine l.o.mono ?_;rintro e w9 hx
         exact hx.elim
        | bad ln co er=>
         rw[hn86]at l;have HE:=hI (show G= .bad ln co er by rw[hr.o,hn86]<;>rfl);clear hn86;go_wp2_with fail;refine l.o.mono ?_;rintro e w9 ⟨rfl,af⟩;go_wp2_with fail;rw[HE.o]
         exact⟨rfl,prp_bad (hI (grown_tr f7.o af.o))⟩
        | ok u5 k15=>
         rw[hn86]at l;have js:=(want_fw (ts:=ts) false [59] k14) _ _ hn86;have i1:=hI (show G= .ok ⟨q.map DcN.pl,y.map DcN.pl,ms.map MdN.pl,tm⟩ k15 by rw[hr.o,hn86]<;>rfl);clear hn86;go_wp2_with fail;refine l.o.mono ?_;rintro e wq86 ⟨hx,b5,i2⟩
         cases hx
         have ew:=hI (hy.o.grown b5.o P.o);have i3:=hI (hz.o.mv pzD (fun b hb e=>by injection e with e;omega) b5.o);have i4:=hI (h0.o.mv pzD (fun b hb e=>by injection e with e;omega) b5.o);have i5:=hI (h1.o.mv pzM (fun b hb e=>by injection e with e;omega) b5.o);have cr:=ew.o.cell;have fr:=ew.o.frozen;have cx:=(ev.o.grown b5.o H.o).cell;have fx:=(ev.o.grown b5.o H.o).frozen;go_wp2;rw[pst5 ew.o];have z:=(ew.o.put #[.l A5 q.length c5,.l B5 y.length d5,.l C5 ms.length e5,.i tm.1,.i tm.2]).cell;refine bodyPost_ret (v:= .agg #[.l A5 q.length c5,.l B5 y.length d5,.l C5 ms.length e5,.i tm.1,.i tm.2]) (by simp[results,Tryz.results25,go_sem,z]) rfl ?_;rw[i1.o];exact⟨⟨⟨A5,q.length,c5,q,B5,y.length,d5,y,C5,ms.length,e5,ms,tm.1,tm.2⟩,rfl,rfl,hI ⟨((i3.o.mv pzD (r:=some w.heap.size) (fun b hb e=>by injection e with e;omega) (putB_grown _ _ _ _)).weaken pzD (fun b hb=>by omega)),((i4.o.mv pzD (r:=some w.heap.size) (fun b hb e=>by injection e with e;omega) (putB_grown _ _ _ _)).weaken pzD (fun b hb=>by omega)),((i5.o.mv pzM (r:=some w.heap.size) (fun b hb e=>by injection e with e;omega) (putB_grown _ _ _ _)).weaken pzM (fun b hb=>by omega)),by show _≤tm.1;omega,by show tm.1≤_;omega,by show _≤tm.2;omega,by show tm.2≤_;omega⟩⟩,hI (grown_new (grown_tr f7.o b5.o) (Nat.le_refl _) _ _),hI (i2.o.far h3 dd _ _)⟩
