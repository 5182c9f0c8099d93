import Derived.Test.YtgcjmhjjpbcfmaaGreatDoorRg
import Derived.Deep.CutBlock
set_option linter.unusedVariables false
set_option maxHeartbeats 4000000
set_option maxRecDepth 100000
namespace Go.Proofs.YtgcjmhjjpbcfmaaGreatDoor
open Go.RowKit Go.Fl Go.Fl.Lx Go.Fl.Nm Go.Fl.Fm Go.Fl.Rt Go.Fl.Pa
def SmV(T:TE)(w:World)(e:Ending)(w':World):Prop:=∃v:Nd,e= .returned v.val∧Hid (InX w.heap.size w' T v)
theorem pSumE{w0 w:World}{g:Nat}{A:Option Addr}{len cap:Nat}{ts:List Tok}{k:Nat}(h:Env w0 g A len cap ts k 0 w)(hk:k≤100000)(hR:RX w0)(hX:FX w0)(hD:DigTs ts):
 Calls Tryz.prog 72 #[.p g] w (PRP SmV w0 g A len cap ts 0 (sumE nameP ts k) w):=by
 refine((ruls_all w0 g A len cap ts h.t hR hX hD (8*ts.length+8)).sum k 0 w (by omega) (by omega) (by omega) h).mono fun e w' hx=>?_
 have hno:=sumE_no (nm:=nameP) (ts:=ts) k;have he:sumP nameP ts (8*ts.length+8) k 0=sumE nameP ts k:=rfl;rw[he]at hx
 revert hx hno
 cases sumE nameP ts k with
 | ok T k1=>exact fun hx _=>⟨⟨hx.choose,hx.choose_spec.1,hx.choose_spec.2.1⟩,hx.choose_spec.2.2.1,hx.choose_spec.2.2.2⟩
 | bad l c e=>exact fun hx _=>hx
 | out=>exact fun _ hno=>absurd rfl hno
theorem nmR_len{ts:List Tok}{k k1:Nat}{n:List UInt8}(h:nmR nameP ts k= .ok n k1):n.length≤20:=by
 unfold nmR at h
 split at h
 ·
  rename_i h2
  injection h with h _;rw[←h];exact nameP_len h2.2
 exact(unex_ok h).elim
theorem bind_assoc'{α β γ:Type}(r:PR α)(f:α→Nat→PR β)(q:β→Nat→PR γ):(r.bind f).bind q=r.bind fun a k=>(f a k).bind q:=by cases r<;>rfl
theorem pst9{w:World}{g:Nat}{t:TypeId}{a b c d e f u6 h i:Value}(hB:Blk w g t #[a,b,c,d,e,f,u6,h,i])(a' b' c' d' e' f' u6' h' i':Value):
 ((((((((w.setCell ⟨g,0,none⟩ a').setCell ⟨g,1,none⟩ b').setCell ⟨g,2,none⟩ c').setCell ⟨g,3,none⟩ d').setCell ⟨g,4,none⟩ e').setCell ⟨g,5,none⟩ f').setCell ⟨g,6,none⟩ u6').setCell ⟨g,7,none⟩ h').setCell ⟨g,8,none⟩ i'=putB w g t #[a',b',c',d',e',f',u6',h',i']:=by
 rw[show w.setCell ⟨g,0,none⟩ a'=putB w g t #[a',b,c,d,e,f,u6,h,i]from hB.setCell_eq 0 a'];have j:=hB.put #[a',b,c,d,e,f,u6,h,i];rw[show(putB w g t #[a',b,c,d,e,f,u6,h,i]).setCell ⟨g,1,none⟩ b'=putB (putB w g t #[a',b,c,d,e,f,u6,h,i]) g t #[a',b',c,d,e,f,u6,h,i]from j.setCell_eq 1 b',putB_putB];have k:=hB.put #[a',b',c,d,e,f,u6,h,i];rw[show(putB w g t #[a',b',c,d,e,f,u6,h,i]).setCell ⟨g,2,none⟩ c'=putB (putB w g t #[a',b',c,d,e,f,u6,h,i]) g t #[a',b',c',d,e,f,u6,h,i]from k.setCell_eq 2 c',putB_putB];have l:=hB.put #[a',b',c',d,e,f,u6,h,i];rw[show(putB w g t #[a',b',c',d,e,f,u6,h,i]).setCell ⟨g,3,none⟩ d'=putB (putB w g t #[a',b',c',d,e,f,u6,h,i]) g t #[a',b',c',d',e,f,u6,h,i]from l.setCell_eq 3 d',putB_putB];have m:=hB.put #[a',b',c',d',e,f,u6,h,i];rw[show(putB w g t #[a',b',c',d',e,f,u6,h,i]).setCell ⟨g,4,none⟩ e'=putB (putB w g t #[a',b',c',d',e,f,u6,h,i]) g t #[a',b',c',d',e',f,u6,h,i]from m.setCell_eq 4 e',putB_putB];have n:=hB.put #[a',b',c',d',e',f,u6,h,i];rw[show(putB w g t #[a',b',c',d',e',f,u6,h,i]).setCell ⟨g,5,none⟩ f'=putB (putB w g t #[a',b',c',d',e',f,u6,h,i]) g t #[a',b',c',d',e',f',u6,h,i]from n.setCell_eq 5 f',putB_putB];have o:=hB.put #[a',b',c',d',e',f',u6,h,i];rw[show(putB w g t #[a',b',c',d',e',f',u6,h,i]).setCell ⟨g,6,none⟩ u6'=putB (putB w g t #[a',b',c',d',e',f',u6,h,i]) g t #[a',b',c',d',e',f',u6',h,i]from o.setCell_eq 6 u6',putB_putB];have p:=hB.put #[a',b',c',d',e',f',u6',h,i];rw[show(putB w g t #[a',b',c',d',e',f',u6',h,i]).setCell ⟨g,7,none⟩ h'=putB (putB w g t #[a',b',c',d',e',f',u6',h,i]) g t #[a',b',c',d',e',f',u6',h',i]from p.setCell_eq 7 h',putB_putB];have q:=hB.put #[a',b',c',d',e',f',u6',h',i];rw[show(putB w g t #[a',b',c',d',e',f',u6',h',i]).setCell ⟨g,8,none⟩ i'=putB (putB w g t #[a',b',c',d',e',f',u6',h',i]) g t #[a',b',c',d',e',f',u6',h',i']from q.setCell_eq 8 i',putB_putB]
theorem pst16{w:World}{g:Nat}{t:TypeId}{a b c d e f u6:Value}(hB:Blk w g t #[a,b,c,d,e,f,u6])(b' c' d' e' f' u6':Value):
 (((((w.setCell ⟨g,1,none⟩ b').setCell ⟨g,2,none⟩ c').setCell ⟨g,3,none⟩ d').setCell ⟨g,4,none⟩ e').setCell ⟨g,5,none⟩ f').setCell ⟨g,6,none⟩ u6'=putB w g t #[a,b',c',d',e',f',u6']:=by
 rw[show w.setCell ⟨g,1,none⟩ b'=putB w g t #[a,b',c,d,e,f,u6]from hB.setCell_eq 1 b'];have i:=hB.put #[a,b',c,d,e,f,u6];rw[show(putB w g t #[a,b',c,d,e,f,u6]).setCell ⟨g,2,none⟩ c'=putB (putB w g t #[a,b',c,d,e,f,u6]) g t #[a,b',c',d,e,f,u6]from i.setCell_eq 2 c',putB_putB];have j:=hB.put #[a,b',c',d,e,f,u6];rw[show(putB w g t #[a,b',c',d,e,f,u6]).setCell ⟨g,3,none⟩ d'=putB (putB w g t #[a,b',c',d,e,f,u6]) g t #[a,b',c',d',e,f,u6]from j.setCell_eq 3 d',putB_putB];have k:=hB.put #[a,b',c',d',e,f,u6];rw[show(putB w g t #[a,b',c',d',e,f,u6]).setCell ⟨g,4,none⟩ e'=putB (putB w g t #[a,b',c',d',e,f,u6]) g t #[a,b',c',d',e',f,u6]from k.setCell_eq 4 e',putB_putB];have l:=hB.put #[a,b',c',d',e',f,u6];rw[show(putB w g t #[a,b',c',d',e',f,u6]).setCell ⟨g,5,none⟩ f'=putB (putB w g t #[a,b',c',d',e',f,u6]) g t #[a,b',c',d',e',f',u6]from l.setCell_eq 5 f',putB_putB];have m:=hB.put #[a,b',c',d',e',f',u6];rw[show(putB w g t #[a,b',c',d',e',f',u6]).setCell ⟨g,6,none⟩ u6'=putB (putB w g t #[a,b',c',d',e',f',u6]) g t #[a,b',c',d',e',f',u6']from m.setCell_eq 6 u6',putB_putB]
theorem EqN.len7(z:EqN):(EqN.cells z).length=7:=rfl
theorem env_row{w0 w w':World}{g:Nat}{A:Option Addr}{len cap:Nat}{ts:List Tok}{k m:Nat}{r:Option Nat}(h:Env w0 g A len cap ts k m w)(hg:w.grownBy w' r)(hr:∀b,r=some b→g<b):Env w0 g A len cap ts k m w':=
 ⟨h.t,⟨hg.os.trans h.b.os,hg.tape.trans h.b.tape,hg.output.trans h.b.output,Nat.le_trans h.b.size hg.size,fun j hj=>(hg.block j (Nat.lt_of_lt_of_le hj h.b.size) (fun e=>by have:=hr j e.symm;have:=h.lo;omega)).trans (h.b.block j hj)⟩,h.lo,Blk.grown h.p hg (fun e=>by have:=hr g e.symm;omega),h.kk⟩
theorem grown_row{w wA w9:World}{g:Nat}{r:Option Nat}(h:w.grownBy wA (some g))(h2:wA.grownBy w9 r)(hr:∀b,r=some b→w.heap.size≤b):w.grownBy w9 (some g):=
 ⟨h2.os.trans h.os,h2.tape.trans h.tape,h2.output.trans h.output,Nat.le_trans h.size h2.size,fun k hk hne=>(h2.block k (Nat.lt_of_lt_of_le hk h.size) (fun e=>by have:=hr k e.symm;omega)).trans (h.block k hk hne)⟩
theorem lil_nil{Z:Type}{m:Nat}{cells:Z→List Value}{Pz:(Nat→Prop)→World→Z→Prop}(P:Nat→Prop)(w:World):LiL m cells Pz P w none 0 0 ([]:List Z):=
 ⟨⟨rfl,Nat.le_refl _,Nat.zero_le _,Rd.none_ _ _,fun z hz=>by cases hz⟩,fun hn=>absurd hn (Nat.lt_irrefl 0),fun _=>NF.nil w⟩
theorem Tryz.infoReset:(Tryz.prog.info? 89).map (fun i=>(i.zero,i.size,i.bytes))=some (some (.agg #[.string ⟨#[]⟩,.i 0,.i 0,.i 0,.string ⟨#[]⟩,.i 0,.sn]),7,88):=by kernel_rfl
theorem unex_bind{α β:Type}{ts:List Tok}{k:Nat}(f:α→Nat→PR β)(h:True):(unex ts k:PR α).bind f=unex ts k:=by
 unfold unex failP
 split<;>rfl
def EdV(d:EdP)(w:World)(e:Ending)(w':World):Prop:=∃x:EdN,e= .returned x.val∧x.pl=d∧Hid (PzG (fun b=>w.heap.size≤b) w' x)
theorem pEdge{w0 w:World}{g:Nat}{A:Option Addr}{len cap:Nat}{ts:List Tok}{k:Nat}(h:Env w0 g A len cap ts k 0 w)(hk:k≤100000)(hR:RX w0)(hX:FX w0)(hD:DigTs ts):Calls Tryz.prog 97 #[.p g] w (PRP EdV w0 g A len cap ts 0 (edgeP nameP ts k) w):=by
 obtain⟨l,bc⟩:=eX (edgeP nameP ts k);have ec:=hI bc;rw[←bc];clear bc;have fq:ts.length≤100000:=(by have:=h.t.hl;have:=h.t.hs;omega)
 go_in
 go_upto_region 1 with(fail);generalize hw1:World.alloc _ _=w1;obtain⟨O1,F1⟩:=gn1 hw1;clear hw1;have x:=hI (show some w.heap.size≠some g from fun e=>by have:=h.gl;injection e with e;omega)
 have b7:w.heap.size≠g:=fun e=>x.o (by rw[e])
 have M:w0.heap.size≤w.heap.size:=h.b.size;have b8:=hI (h.belowW O1.o);have ca:=hI (grown_of (some g) O1.o);clear h;have cb:=hI (show l=(sumE nameP ts k).bind fun g1 k1=>(dirP ts k1).bind fun d k2=>(wantP ts true kGoto k2).bind fun _ k3=>(nmR nameP ts k3).bind fun n k4=>(withP nameP ts k4).bind fun rs k5=>(wantP ts false [59] k5).bind fun _ k6=> .ok ⟨g1,d,n,rs⟩ k6 from ec.o);have c:=hI (pSumE b8.o (by omega) hR hX hD)
 cases hn1:sumE nameP ts k with
 | out=>
  rw[hn1]at c;clear hn1;go_wp2_with fail;refine c.o.mono ?_;rintro e w9 j
  exact j.elim
 | bad ln co er=>
  rw[hn1]at c;have p:=hI (show l= .bad ln co er by rw[cb.o,hn1]<;>rfl);clear hn1;go_wp2_with fail;refine c.o.mono ?_;rintro e w9 ⟨rfl,q⟩;go_wp2_with fail;rw[p.o]
  exact⟨rfl,prp_bad (hI (grown_tr ca.o q.o))⟩
 | ok g1 k1=>
  rw[hn1]at c;have fs:=(sumE_fw (nm:=nameP) (ts:=ts) k) _ _ hn1;have bd:=hI (show l=(dirP ts k1).bind fun d k2=>(wantP ts true kGoto k2).bind fun _ k3=>(nmR nameP ts k3).bind fun n k4=>(withP nameP ts k4).bind fun rs k5=>(wantP ts false [59] k5).bind fun _ k6=> .ok ⟨g1,d,n,rs⟩ k6 by rw[cb.o,hn1]<;>rfl);clear hn1;go_wp2_with fail;refine c.o.mono ?_;rintro e wq1 ⟨j,be,cc⟩;obtain⟨v,j,ed⟩:=j
  cases j
  obtain⟨P,ax⟩:=eX (w1.heap.size);obtain⟨Q,cd⟩:=eX (wq1.heap.size);have ft:g<P:=(by rw[ax];exact b8.o.gl);have fv:w.heap.size<P:=(by rw[ax];exact F1.o.lt);have fw:P≤Q:=(by rw[ax,cd];exact be.o.size);have NX:=hI (show InA (fun b=>P≤b∧b<Q) wq1 g1 v by rw[ax,cd];exact InA.lt ed.o);have ce:=hI (F1.o.grown be.o x.o)
  go_upto_block 0 with(fail)
  generalize m:World.alloc _ _=wb2;obtain⟨ay,bf⟩:=gn1 m;clear m;obtain⟨i,bg⟩:=eX (wq1.heap.size);have o:=hI (show some i≠some g from fun e=>by have:=cc.o.gl;injection e with e;omega);have I:w.heap.size<i:=(by rw[bg];exact ce.o.lt);rw[←bg]at bf ⊢;have ef:Q≤i:=(by omega);clear bg;have cf:=hI (grown_tr (grown_tr ca.o be.o) (grown_of (some g) ay.o));have cg:=ce.o.b9 ay;have ch:=NX.o.b9 ay
  go_cut [10] (fun s10 wx=>∃(d:Int) (k2:Nat),Hid (l=(wantP ts true kGoto k2).bind fun _ k3=>(nmR nameP ts k3).bind fun n k4=>(withP nameP ts k4).bind fun rs k5=>(wantP ts false [59] k5).bind fun _ k6=> .ok ⟨g1,d,n,rs⟩ k6)∧k2≤ts.length∧1≤d∧d≤2∧Hid (Env w0 g A len cap ts k2 0 wx)∧Hid (w.grownBy wx (some g))∧Hid (Blk wx w.heap.size 94 #[.i 0,.i 0,.i 0,.string ⟨#[]⟩,.i 0,.sn,.i 0,.string ⟨#[]⟩,.sn])∧Hid (Blk wx i 94 #[.i v.h.kind,.i v.h.n,.i v.h.d,.string v.h.name,.i v.h.k,.l v.A v.len v.cap,.i d,.string ⟨#[]⟩,.sn])∧Hid (InA (fun b=>P≤b∧b<Q) wx g1 v))
  case first=>
   have ae:=hI (pAccept (cc.o.belowW ay.o) (by omega) ⟨#[114,105,115,101,115]⟩);rw[show kwP (⟨#[114,105,115,101,115]⟩:ByteArray).data.toList=true by decide,show(⟨#[114,105,115,101,115]⟩:ByteArray).data.toList=kRises from rfl]at ae
   cases hb3:isS true ts k1 kRises with
   | true=>
    have fz:=isS_lt hb3;rw[hb3]at ae;have eg:=hI (show l=(wantP ts true kGoto (k1+1)).bind fun _ k3=>(nmR nameP ts k3).bind fun n k4=>(withP nameP ts k4).bind fun rs k5=>(wantP ts false [59] k5).bind fun _ k6=> .ok ⟨g1,1,n,rs⟩ k6 by rw[bd.o];unfold dirP;rw[hb3];rfl);clear hb3;go_wp2_with fail;refine ae.o.mono ?_;rintro e wa3 ⟨rfl,F,af⟩;simp only[if_true]at af;have R:=hI (bf.o.grown F.o o.o);have bh:=hI (ina_mv ch.o (fun b hb e=>by injection e with e;omega) F.o);have y:=R.o.cell;have B:=R.o.frozen;go_wp2_with fail;have ag:=(show wa3.setCell ⟨i,6,none⟩ (.i 1)=putB wa3 i 94 #[.i v.h.kind,.i v.h.n,.i v.h.d,.string v.h.name,.i v.h.k,.l v.A v.len v.cap,.i 1,.string ⟨#[]⟩,.sn]from R.o.setCell_eq 6 _);clear y B;have y:=R.o.cell;have B:=R.o.frozen;rw[ag];obtain⟨S,bi⟩:=eX (#[.i v.h.kind,.i v.h.n,.i v.h.d,.string v.h.name,.i v.h.k,.l v.A v.len v.cap,.i 1,.string ⟨#[]⟩,.sn]:Array Value);have bj:=hI (R.o.put S);have ci:=hI (grown_new (grown_tr cf.o F.o) (Nat.le_of_lt I) 94 S);have cj:=hI (af.o.far (r:=i) (fun e=>o.o (by rw[e])) (Nat.le_trans M (Nat.le_of_lt I)) 94 S);have ck:=hI ((cg.o.grown F.o x.o).far (g':=i) (t':=94) (by omega) S);have cl:=hI (bh.o.far (r:=i) (by omega) 94 S);obtain⟨eh,m⟩:=eX (putB wa3 i 94 S);have f0:wa3.heap.size≤eh.heap.size:=(by rw[m,putB_size];exact Nat.le_refl _);rw[←bi];rw[←m]at ci cj ck bj cl ⊢;clear m y B;rw[bi]at bj;clear bi;clear ag
    go_meet
    exact⟨1,k1+1,eg,by omega,by decide,by decide,cj,ci,ck,bj,cl⟩
   | false=>
    rw[hb3]at ae;have cm:=hb3;clear hb3;go_wp2_with fail;refine ae.o.mono ?_;rintro e wa3 ⟨rfl,F,af⟩;simp only[Bool.false_eq_true,if_false]at af;have cn:=hI (grown_tr cf.o F.o);have bh:=hI (ina_mv ch.o (fun b hb e=>by injection e with e;omega) F.o);have ah:=hI (pAccept af.o (by omega) ⟨#[102,97,108,108,115]⟩);rw[show kwP (⟨#[102,97,108,108,115]⟩:ByteArray).data.toList=true by decide,show(⟨#[102,97,108,108,115]⟩:ByteArray).data.toList=kFalls from rfl]at ah
    cases hb5:isS true ts k1 kFalls with
    | true=>
     have f1:=isS_lt hb5;rw[hb5]at ah;have ei:=hI (show l=(wantP ts true kGoto (k1+1)).bind fun _ k3=>(nmR nameP ts k3).bind fun n k4=>(withP nameP ts k4).bind fun rs k5=>(wantP ts false [59] k5).bind fun _ k6=> .ok ⟨g1,2,n,rs⟩ k6 by rw[bd.o];unfold dirP;rw[cm,hb5];rfl);clear hb5;go_wp2_with fail;refine ah.o.mono ?_;rintro e wa5 ⟨rfl,T,ai⟩;simp only[if_true]at ai;have U:=hI ((bf.o.grown F.o o.o).grown T.o o.o);have ej:=hI (ina_mv bh.o (fun b hb e=>by injection e with e;omega) T.o);have y:=U.o.cell;have B:=U.o.frozen;go_wp2_with fail;have ag:=(show wa5.setCell ⟨i,6,none⟩ (.i 2)=putB wa5 i 94 #[.i v.h.kind,.i v.h.n,.i v.h.d,.string v.h.name,.i v.h.k,.l v.A v.len v.cap,.i 2,.string ⟨#[]⟩,.sn]from U.o.setCell_eq 6 _);clear y B;have y:=U.o.cell;have B:=U.o.frozen;rw[ag];obtain⟨V,bk⟩:=eX (#[.i v.h.kind,.i v.h.n,.i v.h.d,.string v.h.name,.i v.h.k,.l v.A v.len v.cap,.i 2,.string ⟨#[]⟩,.sn]:Array Value);have bl:=hI (U.o.put V);have cp:=hI (grown_new (grown_tr cn.o T.o) (Nat.le_of_lt I) 94 V);have cq:=hI (ai.o.far (r:=i) (fun e=>o.o (by rw[e])) (Nat.le_trans M (Nat.le_of_lt I)) 94 V);have cs:=hI (((cg.o.grown F.o x.o).grown T.o x.o).far (g':=i) (t':=94) (by omega) V);have ct:=hI (ej.o.far (r:=i) (by omega) 94 V);obtain⟨ek,m⟩:=eX (putB wa5 i 94 V);have f2:wa5.heap.size≤ek.heap.size:=(by rw[m,putB_size];exact Nat.le_refl _);rw[←bk];rw[←m]at cp cq cs bl ct ⊢;clear m y B;rw[bk]at bl;clear bk;clear ag
     go_meet
     exact⟨2,k1+1,ei,by omega,by decide,by decide,cq,cp,cs,bl,ct⟩
    | false=>
     rw[hb5]at ah;have p:=hI (show l=unex ts k1 by rw[bd.o];unfold dirP;rw[cm,hb5];exact unex_bind _ trivial);clear hb5;go_wp2_with fail;refine ah.o.mono ?_;rintro e wa5 ⟨rfl,T,ai⟩;simp only[Bool.false_eq_true,if_false]at ai;go_wp2_with fail;refine ai.o.unx.mono ?_;rintro e w9 ⟨he,el⟩;obtain⟨G,bm⟩:=panU_pan ts k1;have HC:=hI bm;rw[bm]at he;subst he;clear bm;go_wp2_with fail;rw[p.o];exact⟨rfl,prp_unex HC.o.symm (hI (grown_tr (grown_tr cn.o T.o) (grown_of _ el.o)))⟩
  obtain⟨d,k2,HD,f3,f4,f5,cw,bn,cz,c0,c1⟩:=hcut;obtain⟨w3,hw⟩:=eX (wc);rw[←hw]at cw bn cz c0 c1 ⊢;clear hw;have c:=hI (pWant cw.o (by omega) kGoto true (by decide))
  cases hn41:wantP ts true kGoto k2 with
  | out=>
   rw[hn41]at c;clear hn41;go_wp2_with fail;refine c.o.mono ?_;rintro e w9 j
   exact j.elim
  | bad ln co er=>
   rw[hn41]at c;have p:=hI (show l= .bad ln co er by rw[HD.o,hn41]<;>rfl);clear hn41;go_wp2_with fail;refine c.o.mono ?_;rintro e w9 ⟨rfl,q⟩;go_wp2_with fail;rw[p.o]
   exact⟨rfl,prp_bad (hI (grown_tr bn.o q.o))⟩
  | ok u3 k3=>
   rw[hn41]at c;have f7:=(want_fw (ts:=ts) true kGoto k2) _ _ hn41;have c3:=hI (show l=(nmR nameP ts k3).bind fun n k4=>(withP nameP ts k4).bind fun rs k5=>(wantP ts false [59] k5).bind fun _ k6=> .ok ⟨g1,d,n,rs⟩ k6 by rw[HD.o,hn41]<;>rfl);clear hn41;go_wp2_with fail;refine c.o.mono ?_;rintro e wq41 ⟨j,az,en⟩
   cases j
   have c4:=hI (grown_tr bn.o az.o);have eo:=hI (ina_mv c1.o (fun b hb e=>by injection e with e;omega) az.o);have c:=hI (pNm en.o (by omega))
   cases hn42:nmR nameP ts k3 with
   | out=>
    rw[hn42]at c;clear hn42;go_wp2_with fail;refine c.o.mono ?_;rintro e w9 j
    exact j.elim
   | bad ln co er=>
    rw[hn42]at c;have p:=hI (show l= .bad ln co er by rw[c3.o,hn42]<;>rfl);clear hn42;go_wp2_with fail;refine c.o.mono ?_;rintro e w9 ⟨rfl,q⟩;go_wp2_with fail;rw[p.o]
    exact⟨rfl,prp_bad (hI (grown_tr c4.o q.o))⟩
   | ok n k4=>
    rw[hn42]at c;have f8:=(nmR_fw (nm:=nameP) (ts:=ts) k3) _ _ hn42;have c6:=hI (show l=(withP nameP ts k4).bind fun rs k5=>(wantP ts false [59] k5).bind fun _ k6=> .ok ⟨g1,d,n,rs⟩ k6 by rw[c3.o,hn42]<;>rfl);have f9:=nmR_len hn42;clear hn42;go_wp2_with fail;refine c.o.mono ?_;rintro e wq42 ⟨j,a0,ep⟩
    cases j
    have a1:=hI ((c0.o.grown az.o o.o).grown a0.o o.o);have eq:=hI (ina_mv eo.o (fun b hb e=>by injection e with e;omega) a0.o);have y:=a1.o.cell;have B:=a1.o.frozen;go_upto_region 9 with(fail);rw[(show wq42.setCell ⟨i,7,none⟩ (.string ⟨n.toArray⟩)=putB wq42 i 94 #[.i v.h.kind,.i v.h.n,.i v.h.d,.string v.h.name,.i v.h.k,.l v.A v.len v.cap,.i d,.string ⟨n.toArray⟩,.sn]from a1.o.setCell_eq 7 _)];obtain⟨W,bo⟩:=eX (#[.i v.h.kind,.i v.h.n,.i v.h.d,.string v.h.name,.i v.h.k,.l v.A v.len v.cap,.i d,.string ⟨n.toArray⟩,.sn]:Array Value);have aj:=hI (a1.o.put W);have bp:=hI (grown_new (grown_tr c4.o a0.o) (Nat.le_of_lt I) 94 W);have c7:=hI (ep.o.far (r:=i) (fun e=>o.o (by rw[e])) (Nat.le_trans M (Nat.le_of_lt I)) 94 W);have bq:=hI (((cz.o.grown az.o x.o).grown a0.o x.o).far (g':=i) (t':=94) (by omega) W);have br:=hI (eq.o.far (r:=i) (by omega) 94 W);obtain⟨es,m⟩:=eX (putB wq42 i 94 W);have ga:wq42.heap.size≤es.heap.size:=(by rw[m,putB_size];exact Nat.le_refl _);rw[←bo];rw[←m]at bp c7 bq aj br ⊢;clear m y B;rw[bo]at aj;clear bo;have ak:=hI (pAccept c7.o (by omega) ⟨#[119,105,116,104]⟩);rw[show kwP (⟨#[119,105,116,104]⟩:ByteArray).data.toList=true by decide,show(⟨#[119,105,116,104]⟩:ByteArray).data.toList=kWith from rfl]at ak
    cases hb44:isS true ts k4 kWith with
    | true=>
     have gb:=isS_lt hb44;rw[hb44]at ak;have a2:=hI (show l=(resP nameP ts (ts.length+1) (k4+1) []).bind fun rs k5=>(wantP ts false [59] k5).bind fun _ k6=> .ok ⟨g1,d,n,rs⟩ k6 by rw[c6.o];unfold withP;rw[hb44];rfl);clear hb44;go_wp2_with fail;refine ak.o.mono ?_;rintro e wa44 ⟨rfl,E,al⟩;simp only[if_true]at al;have c8:=hI (aj.o.grown E.o o.o);have bs:=hI (ina_mv br.o (fun b hb e=>by injection e with e;omega) E.o);go_wp2_with fail;have gc:i+1≤wa44.heap.size:=c8.o.lt;have gd:g<i:=(by have:=ef;omega)
     go_loopg [] (ts.length+1) (fun fu wr=>∃(k5:Nat) (s:List EqN) (X:Value),Hid (l=(resP nameP ts fu k5 (s.map EqN.pl)).bind fun rs k5=>(wantP ts false [59] k5).bind fun _ k6=> .ok ⟨g1,d,n,rs⟩ k6)∧k5≤ts.length∧ts.length<fu+k5∧s.length≤k5∧Hid (Env w0 g A len cap ts k5 0 wr)∧Hid (w.grownBy wr (some g))∧Hid (Blk wr w.heap.size 94 #[.i 0,.i 0,.i 0,.string ⟨#[]⟩,.i 0,.sn,.i 0,.string ⟨#[]⟩,.sn])∧Hid (Blk wr i 94 #[.i v.h.kind,.i v.h.n,.i v.h.d,.string v.h.name,.i v.h.k,.l v.A v.len v.cap,.i d,.string ⟨n.toArray⟩,X])∧Hid (InA (fun b=>P≤b∧b<Q) wr g1 v)∧Hid (Mk 89 7 EqN.cells PzQ (i+1) wr X s))
     case atStart=>exact⟨k4+1,[],.sn,a2,by omega,by omega,by simp,al,(hI (grown_tr bp.o E.o)),(hI (bq.o.grown E.o x.o)),c8,bs,hI (Mk.nil _ _ _ _ _ _)⟩
     obtain⟨k5,s,X,HQ,ge,gf,gg,eu,da,ev,db,ew,dc⟩:=hrel
     cases gk with
     | zero=>exfalso;omega
     | succ fu=>
      have dd:=hI (show l=(nmR nameP ts k5).bind fun n2 k7=>(wantP ts false [61] k7).bind fun _ k8=>(sumE nameP ts k8).bind fun e2 k9=>(if isS false ts k9 [44]then resP nameP ts fu (k9+1) (s.map EqN.pl++[⟨n2,e2⟩])else .ok (s.map EqN.pl++[⟨n2,e2⟩]) k9).bind fun rs k5=>(wantP ts false [59] k5).bind fun _ k6=> .ok ⟨g1,d,n,rs⟩ k6 by rw[HQ.o,resP];simp only[bind_assoc']);have gh:i<wr.heap.size:=db.o.lt
      have de:∀kb,X.ownBlock=some kb→i+1≤kb∧kb<wr.heap.size:=fun kb h=>dc.o.own.lt kb h
      have c:=hI (pNm eu.o (by omega))
      cases hn61:nmR nameP ts k5 with
      | out=>
       rw[hn61]at c;clear hn61;go_wp2_with fail;refine c.o.mono ?_;rintro e w9 j
       exact j.elim
      | bad ln co er=>
       rw[hn61]at c;have p:=hI (show l= .bad ln co er by rw[dd.o,hn61]<;>rfl);clear hn61;go_wp2_with fail;refine c.o.mono ?_;rintro e w9 ⟨rfl,q⟩;go_wp2_with fail;rw[p.o]
       exact⟨rfl,prp_bad (hI (grown_tr da.o q.o))⟩
      | ok n2 k7=>
       rw[hn61]at c;have gi:=(nmR_fw (nm:=nameP) (ts:=ts) k5) _ _ hn61;have df:=hI (show l=(wantP ts false [61] k7).bind fun _ k8=>(sumE nameP ts k8).bind fun e2 k9=>(if isS false ts k9 [44]then resP nameP ts fu (k9+1) (s.map EqN.pl++[⟨n2,e2⟩])else .ok (s.map EqN.pl++[⟨n2,e2⟩]) k9).bind fun rs k5=>(wantP ts false [59] k5).bind fun _ k6=> .ok ⟨g1,d,n,rs⟩ k6 by rw[dd.o,hn61]<;>rfl);have gj:=nmR_len hn61;clear hn61;go_wp2_with fail;refine c.o.mono ?_;rintro e wq61 ⟨j,Y,dg⟩
       cases j
       have dh:=hI (ev.o.grown Y.o x.o);have di:=hI (db.o.grown Y.o o.o);have ex:=hI (ina_mv ew.o (fun b hb e=>by injection e with e;omega) Y.o);go_upto_region 11 with(fail);generalize m:World.alloc _ _=wb62;obtain⟨Z,dj⟩:=gn1 m;clear m;obtain⟨C,am⟩:=eX (wq61.heap.size);have bt:=hI (show some C≠some g from fun e=>by have:=dg.o.gl;injection e with e;omega);have dk:w.heap.size<C:=(by rw[am];exact dh.o.lt);rw[←am]at dj ⊢;have gm:wr.heap.size≤C:=(by rw[am];exact Y.o.size);have gn:i<C:=(by rw[am];exact di.o.lt);have go:Q≤C:=(by omega);clear am;have dl:=hI (grown_tr (grown_tr da.o Y.o) (grown_of (some g) Z.o));have c:=hI (pWant (dg.o.belowW Z.o) (by omega) [61] false (by decide))
       cases hn63:wantP ts false [61] k7 with
       | out=>
        rw[hn63]at c;clear hn63;go_wp2_with fail;refine c.o.mono ?_;rintro e w9 j
        exact j.elim
       | bad ln co er=>
        rw[hn63]at c;have p:=hI (show l= .bad ln co er by rw[df.o,hn63]<;>rfl);clear hn63;go_wp2_with fail;refine c.o.mono ?_;rintro e w9 ⟨rfl,q⟩;go_wp2_with fail;rw[p.o]
        exact⟨rfl,prp_bad (hI (grown_tr dl.o q.o))⟩
       | ok u4 k8=>
        rw[hn63]at c;have gp:=(want_fw (ts:=ts) false [61] k7) _ _ hn63;have dm:=hI (show l=(sumE nameP ts k8).bind fun e2 k9=>(if isS false ts k9 [44]then resP nameP ts fu (k9+1) (s.map EqN.pl++[⟨n2,e2⟩])else .ok (s.map EqN.pl++[⟨n2,e2⟩]) k9).bind fun rs k5=>(wantP ts false [59] k5).bind fun _ k6=> .ok ⟨g1,d,n,rs⟩ k6 by rw[df.o,hn63]<;>rfl);clear hn63;go_wp2_with fail;refine c.o.mono ?_;rintro e wq63 ⟨j,aa,dn⟩
        cases j
        have dp:=hI (grown_tr dl.o aa.o);have dq:=hI (dj.o.grown aa.o bt.o);have ey:=hI (ina_mv (ex.o.belowW Z.o) (fun b hb e=>by injection e with e;omega) aa.o);have c:=hI (pSumE dn.o (by omega) hR hX hD)
        cases hn64:sumE nameP ts k8 with
        | out=>
         rw[hn64]at c;clear hn64;go_wp2_with fail;refine c.o.mono ?_;rintro e w9 j
         exact j.elim
        | bad ln co er=>
         rw[hn64]at c;have p:=hI (show l= .bad ln co er by rw[dm.o,hn64]<;>rfl);clear hn64;go_wp2_with fail;refine c.o.mono ?_;rintro e w9 ⟨rfl,q⟩;go_wp2_with fail;rw[p.o]
         exact⟨rfl,prp_bad (hI (grown_tr dp.o q.o))⟩
        | ok e2 k9=>
         rw[hn64]at c;have gq:=(sumE_fw (nm:=nameP) (ts:=ts) k8) _ _ hn64;have dr:=hI (show l=(if isS false ts k9 [44]then resP nameP ts fu (k9+1) (s.map EqN.pl++[⟨n2,e2⟩])else .ok (s.map EqN.pl++[⟨n2,e2⟩]) k9).bind fun rs k5=>(wantP ts false [59] k5).bind fun _ k6=> .ok ⟨g1,d,n,rs⟩ k6 by rw[dm.o,hn64]<;>rfl);clear hn64;go_wp2_with fail;refine c.o.mono ?_;rintro e wq64 ⟨j,N,ez⟩;obtain⟨a,j,e0⟩:=j
         cases j
         obtain⟨a3,a4⟩:=eX (wq63.heap.size);obtain⟨ds,dt⟩:=eX (wq64.heap.size);have gr:g<a3:=(by rw[a4];exact dn.o.gl);have gs:C<a3:=(by rw[a4];exact dq.o.lt);have gt:a3≤ds:=(by rw[a4,dt];exact N.o.size);have e1:=hI (show InA (fun b=>a3≤b∧b<ds) wq64 e2 a by rw[a4,dt];exact InA.lt e0.o);have a5:=hI (dq.o.grown N.o bt.o);have e3:=hI (ina_mv ey.o (fun b hb e=>by injection e with e;omega) N.o);have cy:=a5.o.cell;have fy:=a5.o.frozen;go_upto_region 13 with(fail);rw[pst16 a5.o];obtain⟨H,bw⟩:=eX (#[.string ⟨n2.toArray⟩,.i a.h.kind,.i a.h.n,.i a.h.d,.string a.h.name,.i a.h.k,.l a.A a.len a.cap]:Array Value);have a6:=hI (a5.o.put H);have du:=hI (grown_new (grown_tr dp.o N.o) (Nat.le_of_lt dk) 89 H);have dv:=hI (ez.o.far (r:=C) (fun e=>bt.o (by rw[e])) (Nat.le_trans M (Nat.le_of_lt dk)) 89 H);have dw:=hI ((((dh.o.belowW Z.o).grown aa.o x.o).grown N.o x.o).far (g':=C) (t':=89) (by omega) H);have a7:=hI ((((di.o.belowW Z.o).grown aa.o o.o).grown N.o o.o).far (g':=C) (t':=89) (by omega) H);have dx:=hI (e3.o.far (r:=C) (by omega) 89 H);have dy:=hI (e1.o.far (r:=C) (by omega) 89 H);have dz:=hI (grown_new (r:=C) (grown_tr (grown_tr (grown_tr (grown_tr (World.grownBy.refl wr (some g)) Y.o) (grown_of (some g) Z.o)) aa.o) N.o) (by omega) 89 H);obtain⟨J,m⟩:=eX (putB wq64 C 89 H);have gu:wq64.heap.size≤J.heap.size:=(by rw[m,putB_size];exact Nat.le_refl _);rw[←bw];rw[←m]at du dv dw a7 a6 dx dy dz ⊢;clear m cy fy;rw[bw]at a6;clear bw
         have e4:(⟨n2.toArray⟩:ByteArray).size≤maxLen:=by
          show n2.toArray.size≤_
          rw[List.size_toArray];unfold maxLen
          omega
         have O:=hI (below_box J (Obj.cells #[.string ⟨n2.toArray⟩,.i a.h.kind,.i a.h.n,.i a.h.d,.string a.h.name,.i a.h.k,.l a.A a.len a.cap] 89));have e5:=hI ((dc.o.moved pzQ (.inr ⟨g,rfl,by omega⟩) dz.o).belowW pzQ O.o);have e6:=hI (show PzQ (fun b=>i+1≤b∧b<(J.alloc (Obj.cells #[.string ⟨n2.toArray⟩,.i a.h.kind,.i a.h.n,.i a.h.d,.string a.h.name,.i a.h.k,.l a.A a.len a.cap] 89)).heap.size∧some b≠X.ownBlock) (J.alloc (Obj.cells #[.string ⟨n2.toArray⟩,.i a.h.kind,.i a.h.n,.i a.h.d,.string a.h.name,.i a.h.k,.l a.A a.len a.cap] 89)) ⟨⟨n2.toArray⟩,a,e2⟩from⟨(dy.o.belowW O.o).weaken (fun b hb=>⟨by omega,by rw[World.size_alloc];omega,fun e=>by have:=de b e.symm;omega⟩),e4⟩);have e7:∀u∈EqN.cells (⟨⟨n2.toArray⟩,a,e2⟩:EqN),u.oneCell'=true:=(by simp[EqN.cells,Value.oneCell']);have e8:i+1≤(J.alloc (Obj.cells #[.string ⟨n2.toArray⟩,.i a.h.kind,.i a.h.n,.i a.h.d,.string a.h.name,.i a.h.k,.l a.A a.len a.cap] 89)).heap.size:=(by rw[World.size_alloc];omega);have y:=a7.o.cell;have B:=a7.o.frozen;have cy:=a6.o.cell;have fy:=a6.o.frozen;obtain⟨i0,ti,d1,d2,d3⟩:=info_parts Tryz.infoReset
         go_wp2_with (at_builtin;refine wpList_append_mk rfl _ _ _ rfl pzQ EqN.len7 rfl e5.o e6.o i0 _ 88 Tryz.underlying92 ti d1 d2 d3 rfl (by omega) (by omega) (by omega) J.heap.size _ rfl (show Blk (J.alloc (Obj.cells #[.string ⟨n2.toArray⟩,.i a.h.kind,.i a.h.n,.i a.h.d,.string a.h.name,.i a.h.k,.l a.A a.len a.cap] 89)) J.heap.size 89 (EqN.cells (⟨⟨n2.toArray⟩,a,e2⟩:EqN)).toArray from Blk.new _ _ _) e7 e8 ?_)
         intro v9 w9 hmk hgr hob;have d4:=hI hmk;have an:=hI hgr;clear hmk hgr hob ti d1 d2 d3 y B cy fy;obtain⟨L,G,d5,_⟩:=d4.o.lies pzQ;obtain⟨L9,d6⟩:=eX ((s++[(⟨⟨n2.toArray⟩,a,e2⟩:EqN)]).length);rw[←d6]at d5;clear d6;subst d5
         have ap:∀b,X.ownBlock=some b→i+1≤b:=fun b h=>(de b h).1
         have fa:=hI (env_row (dv.o.belowW O.o) an.o (fun b h=>by have:=ap b h;omega));have q:=hI (grown_row (grown_tr du.o (grown_of (some g) O.o)) an.o (fun b h=>by have:=ap b h;omega));have fb:=hI ((dw.o.belowW O.o).grown an.o (fun e=>by have:=ap _ e.symm;omega));have a8:=hI ((a7.o.belowW O.o).grown an.o (fun e=>by have:=ap _ e.symm;omega));have fc:=hI (ina_mv (dx.o.belowW O.o) (fun b hb e=>by have:=ap b e.symm;omega) an.o);have aq:=hI (d4.o.moved pzQ (.inr ⟨i,rfl,Nat.lt_succ_self _⟩) (putB_grown w9 i 94 #[.i v.h.kind,.i v.h.n,.i v.h.d,.string v.h.name,.i v.h.k,.l v.A v.len v.cap,.i d,.string ⟨n.toArray⟩,.l L L9 G]));have y:=a8.o.cell;have B:=a8.o.frozen;go_upto_region 14 with(fail);rw[(show w9.setCell ⟨i,8,none⟩ (.l L L9 G)=putB w9 i 94 #[.i v.h.kind,.i v.h.n,.i v.h.d,.string v.h.name,.i v.h.k,.l v.A v.len v.cap,.i d,.string ⟨n.toArray⟩,.l L L9 G]from a8.o.setCell_eq 8 _)];obtain⟨ab,bx⟩:=eX (#[.i v.h.kind,.i v.h.n,.i v.h.d,.string v.h.name,.i v.h.k,.l v.A v.len v.cap,.i d,.string ⟨n.toArray⟩,.l L L9 G]:Array Value);have ar:=hI (a8.o.put ab);have bz:=hI (grown_new q.o (Nat.le_of_lt I) 94 ab);have d7:=hI (fa.o.far (r:=i) (fun e=>o.o (by rw[e])) (Nat.le_trans M (Nat.le_of_lt I)) 94 ab);have b0:=hI (fb.o.far (g':=i) (t':=94) (by omega) ab);have b1:=hI (fc.o.far (r:=i) (by omega) 94 ab);obtain⟨fd,m⟩:=eX (putB w9 i 94 ab);have gv:w9.heap.size≤fd.heap.size:=(by rw[m,putB_size];exact Nat.le_refl _);rw[←bx]at aq ⊢;rw[←m]at bz d7 b0 ar b1 aq ⊢;clear m y B;rw[bx]at ar;clear bx;have au:=hI (pAccept d7.o (by omega) ⟨#[44]⟩);rw[show kwP (⟨#[44]⟩:ByteArray).data.toList=false by decide,show(⟨#[44]⟩:ByteArray).data.toList=[44]from rfl]at au
         cases hb68:isS false ts k9 [44]with
         | true=>
          have gw:=isS_lt hb68;rw[hb68]at au;have fe:=hI (show l=(resP nameP ts fu (k9+1) ((s++[(⟨⟨n2.toArray⟩,a,e2⟩:EqN)]).map EqN.pl)).bind fun rs k5=>(wantP ts false [59] k5).bind fun _ k6=> .ok ⟨g1,d,n,rs⟩ k6 by rw[dr.o,hb68,if_pos rfl,List.map_append];rfl);clear hb68;go_wp2_with fail;refine au.o.mono ?_;rintro e wa68 ⟨rfl,D,av⟩;simp only[if_true]at av;have b2:=hI (ina_mv b1.o (fun b hb e=>by injection e with e;omega) D.o);have a9:=hI (aq.o.moved pzQ (.inr ⟨g,rfl,by omega⟩) D.o);go_wp2
          go_roundg fu
          case measure=>omega
          case rel=>exact⟨k9+1,s++[(⟨⟨n2.toArray⟩,a,e2⟩:EqN)],.l L L9 G,fe,by omega,by omega,by rw[List.length_append];show s.length+1≤_;omega,av,(hI (grown_tr bz.o D.o)),(hI (b0.o.grown D.o x.o)),(hI (ar.o.grown D.o o.o)),b2,a9⟩
         | false=>
          rw[hb68]at au;obtain⟨ac,b3⟩:=eX (s++[(⟨⟨n2.toArray⟩,a,e2⟩:EqN)]);have d8:=hI (show l=(wantP ts false [59] k9).bind fun _ k6=> .ok ⟨g1,d,n,ac.map EqN.pl⟩ k6 by rw[dr.o,hb68,if_neg (by decide),b3,List.map_append];rfl);rw[←b3]at aq;clear b3;clear hb68;go_wp2_with fail;refine au.o.mono ?_;rintro e wa68 ⟨rfl,D,av⟩;simp only[Bool.false_eq_true,if_false]at av;have d9:=hI (grown_tr bz.o D.o);have b2:=hI (ina_mv b1.o (fun b hb e=>by injection e with e;omega) D.o);have a9:=hI (aq.o.moved pzQ (.inr ⟨g,rfl,by omega⟩) D.o);have gz:=a9;have c:=hI (pWant av.o (by omega) [59] false (by decide))
          cases hn70:wantP ts false [59] k9 with
          | out=>
           rw[hn70]at c;clear hn70;go_wp2_with fail;refine c.o.mono ?_;rintro e w9 j
           exact j.elim
          | bad ln co er=>
           rw[hn70]at c;have p:=hI (show l= .bad ln co er by rw[d8.o,hn70]<;>rfl);clear hn70;go_wp2_with fail;refine c.o.mono ?_;rintro e w9 ⟨rfl,q⟩;go_wp2_with fail;rw[p.o]
           exact⟨rfl,prp_bad (hI (grown_tr d9.o q.o))⟩
          | ok u6 k6=>
           rw[hn70]at c;have g0:=(want_fw (ts:=ts) false [59] k9) _ _ hn70;have ff:=hI (show l= .ok ⟨g1,d,n,(ac).map EqN.pl⟩ k6 by rw[d8.o,hn70]<;>rfl);clear hn70;go_wp2_with fail;refine c.o.mono ?_;rintro e wq70 ⟨j,ad,fg⟩
           cases j
           have ba:=hI ((b0.o.grown D.o x.o).grown ad.o x.o);have fh:=hI (ina_mv b2.o (fun b hb e=>by injection e with e;omega) ad.o);have fi:=hI (a9.o.moved pzQ (.inr ⟨g,rfl,by omega⟩) ad.o);obtain⟨A5,c5,fj,ea⟩:=fi.o.lies pzQ;have fk:=hI ea;clear ea;injection fj with h5 hl h6;subst h5 hl h6
           have b4:(⟨n.toArray⟩:ByteArray).size≤maxLen:=by
            show n.toArray.size≤_
            rw[List.size_toArray];unfold maxLen
            omega
           have cr:=ba.o.cell;have fr:=ba.o.frozen;have y:=((ar.o.grown D.o o.o).grown ad.o o.o).cell;have B:=((ar.o.grown D.o o.o).grown ad.o o.o).frozen;go_wp2;rw[pst9 ba.o];have z:=(ba.o.put #[.i v.h.kind,.i v.h.n,.i v.h.d,.string v.h.name,.i v.h.k,.l v.A v.len v.cap,.i d,.string ⟨n.toArray⟩,.l L ac.length G]).cell;refine bodyPost_ret (v:= .agg #[.i v.h.kind,.i v.h.n,.i v.h.d,.string v.h.name,.i v.h.k,.l v.A v.len v.cap,.i d,.string ⟨n.toArray⟩,.l L ac.length G]) (by simp[results,Tryz.results97,go_sem,z]) rfl ?_;rw[ff.o]
           exact⟨⟨⟨v,g1,d,⟨n.toArray⟩,L,ac.length,G,ac⟩,rfl,rfl,hI ⟨(InA.far fh.o (r:=w.heap.size) (by omega) _ _).weaken (fun b hb=>by omega),(by show -9223372036854775808≤d;omega),(by show d≤9223372036854775807;omega),b4,((fk.o.mv pzQ (r:=some w.heap.size) (fun b hb e=>by injection e with e;omega) (putB_grown _ _ _ _)).weaken pzQ (fun b hb=>by omega))⟩⟩,hI (grown_new (grown_tr d9.o ad.o) (Nat.le_refl _) _ _),hI (fg.o.far b7 M _ _)⟩
    | false=>
     rw[hb44]at ak;have a2:=hI (show l=(wantP ts false [59] k4).bind fun _ k6=> .ok ⟨g1,d,n,([]:List EqN).map EqN.pl⟩ k6 by rw[c6.o];unfold withP;rw[hb44];rfl);clear hb44;go_wp2_with fail;refine ak.o.mono ?_;rintro e wa44 ⟨rfl,E,al⟩;simp only[Bool.false_eq_true,if_false]at al;have eb:=hI (grown_tr bp.o E.o);have bs:=hI (ina_mv br.o (fun b hb e=>by injection e with e;omega) E.o);have c:=hI (pWant al.o (by omega) [59] false (by decide))
     cases hn46:wantP ts false [59] k4 with
     | out=>
      rw[hn46]at c;clear hn46;go_wp2_with fail;refine c.o.mono ?_;rintro e w9 j
      exact j.elim
     | bad ln co er=>
      rw[hn46]at c;have p:=hI (show l= .bad ln co er by rw[a2.o,hn46]<;>rfl);clear hn46;go_wp2_with fail;refine c.o.mono ?_;rintro e w9 ⟨rfl,q⟩;go_wp2_with fail;rw[p.o]
      exact⟨rfl,prp_bad (hI (grown_tr eb.o q.o))⟩
     | ok u6 k6=>
      rw[hn46]at c;have g4:=(want_fw (ts:=ts) false [59] k4) _ _ hn46;have fn:=hI (show l= .ok ⟨g1,d,n,([]).map EqN.pl⟩ k6 by rw[a2.o,hn46]<;>rfl);clear hn46;go_wp2_with fail;refine c.o.mono ?_;rintro e wq46 ⟨j,aw,fo⟩
      cases j
      have bb:=hI ((bq.o.grown E.o x.o).grown aw.o x.o);have fp:=hI (ina_mv bs.o (fun b hb e=>by injection e with e;omega) aw.o)
      have b4:(⟨n.toArray⟩:ByteArray).size≤maxLen:=by
       show n.toArray.size≤_
       rw[List.size_toArray];unfold maxLen
       omega
      have cr:=bb.o.cell;have fr:=bb.o.frozen;have y:=((aj.o.grown E.o o.o).grown aw.o o.o).cell;have B:=((aj.o.grown E.o o.o).grown aw.o o.o).frozen;go_wp2;rw[pst9 bb.o];have z:=(bb.o.put #[.i v.h.kind,.i v.h.n,.i v.h.d,.string v.h.name,.i v.h.k,.l v.A v.len v.cap,.i d,.string ⟨n.toArray⟩,.sn]).cell;refine bodyPost_ret (v:= .agg #[.i v.h.kind,.i v.h.n,.i v.h.d,.string v.h.name,.i v.h.k,.l v.A v.len v.cap,.i d,.string ⟨n.toArray⟩,.sn]) (by simp[results,Tryz.results97,go_sem,z]) rfl ?_;rw[fn.o];exact⟨⟨⟨v,g1,d,⟨n.toArray⟩,none,0,0,[]⟩,rfl,rfl,hI ⟨(InA.far fp.o (r:=w.heap.size) (by omega) _ _).weaken (fun b hb=>by omega),(by show -9223372036854775808≤d;omega),(by show d≤9223372036854775807;omega),b4,lil_nil _ _⟩⟩,hI (grown_new (grown_tr eb.o aw.o) (Nat.le_refl _) _ _),hI (fo.o.far b7 M _ _)⟩
