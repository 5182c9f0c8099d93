import Derived.Test.YtgcjmhjjpbcfmaaGreatDoorRg
import Derived.Deep.CutBlock
set_option linter.unusedVariables false
set_option maxHeartbeats 4000000
set_option maxRecDepth 100000
namespace Go.Proofs.YtgcjmhjjpbcfmaaGreatDoor
open Go.RowKit Go.Fl Go.Fl.Lx Go.Fl.Nm Go.Fl.Fm Go.Fl.Rt Go.Fl.Pa
def SmV(T:TE)(w:World)(e:Ending)(w':World):Prop:=∃v:Nd,e= .returned v.val∧Hid (InX w.heap.size w' T v)
theorem pSumE{w0 w:World}{g:Nat}{A:Option Addr}{len cap:Nat}{ts:List Tok}{k:Nat}(h:Env w0 g A len cap ts k 0 w)(hk:k≤100000)(hR:RX w0)(hX:FX w0)(hD:DigTs ts):
 Calls Tryz.prog 72 #[.p g] w (PRP SmV w0 g A len cap ts 0 (sumE nameP ts k) w):=by
 refine((ruls_all w0 g A len cap ts h.t hR hX hD (8*ts.length+8)).sum k 0 w (by omega) (by omega) (by omega) h).mono fun e w' hx=>?_
 have hno:=sumE_no (nm:=nameP) (ts:=ts) k;have he:sumP nameP ts (8*ts.length+8) k 0=sumE nameP ts k:=rfl;rw[he]at hx
 revert hx hno
 cases sumE nameP ts k with
 | ok T k1=>exact fun hx _=>⟨⟨hx.choose,hx.choose_spec.1,hx.choose_spec.2.1⟩,hx.choose_spec.2.2.1,hx.choose_spec.2.2.2⟩
 | bad l c e=>exact fun hx _=>hx
 | out=>exact fun _ hno=>absurd rfl hno
theorem nmR_len{ts:List Tok}{k k1:Nat}{n:List UInt8}(h:nmR nameP ts k= .ok n k1):n.length≤20:=by
 unfold nmR at h
 split at h
 ·
  rename_i h2
  injection h with h _;rw[←h];exact nameP_len h2.2
 exact(unex_ok h).elim
theorem bind_assoc'{α β γ:Type}(r:PR α)(f:α→Nat→PR β)(q:β→Nat→PR γ):(r.bind f).bind q=r.bind fun a k=>(f a k).bind q:=by cases r<;>rfl
theorem pst9{w:World}{g:Nat}{t:TypeId}{a b c d e f u6 h i:Value}(hB:Blk w g t #[a,b,c,d,e,f,u6,h,i])(a' b' c' d' e' f' u6' h' i':Value):
 ((((((((w.setCell ⟨g,0,none⟩ a').setCell ⟨g,1,none⟩ b').setCell ⟨g,2,none⟩ c').setCell ⟨g,3,none⟩ d').setCell ⟨g,4,none⟩ e').setCell ⟨g,5,none⟩ f').setCell ⟨g,6,none⟩ u6').setCell ⟨g,7,none⟩ h').setCell ⟨g,8,none⟩ i'=putB w g t #[a',b',c',d',e',f',u6',h',i']:=by
 rw[show w.setCell ⟨g,0,none⟩ a'=putB w g t #[a',b,c,d,e,f,u6,h,i]from hB.setCell_eq 0 a'];have j:=hB.put #[a',b,c,d,e,f,u6,h,i];rw[show(putB w g t #[a',b,c,d,e,f,u6,h,i]).setCell ⟨g,1,none⟩ b'=putB (putB w g t #[a',b,c,d,e,f,u6,h,i]) g t #[a',b',c,d,e,f,u6,h,i]from j.setCell_eq 1 b',putB_putB];have k:=hB.put #[a',b',c,d,e,f,u6,h,i];rw[show(putB w g t #[a',b',c,d,e,f,u6,h,i]).setCell ⟨g,2,none⟩ c'=putB (putB w g t #[a',b',c,d,e,f,u6,h,i]) g t #[a',b',c',d,e,f,u6,h,i]from k.setCell_eq 2 c',putB_putB];have l:=hB.put #[a',b',c',d,e,f,u6,h,i];rw[show(putB w g t #[a',b',c',d,e,f,u6,h,i]).setCell ⟨g,3,none⟩ d'=putB (putB w g t #[a',b',c',d,e,f,u6,h,i]) g t #[a',b',c',d',e,f,u6,h,i]from l.setCell_eq 3 d',putB_putB];have m:=hB.put #[a',b',c',d',e,f,u6,h,i];rw[show(putB w g t #[a',b',c',d',e,f,u6,h,i]).setCell ⟨g,4,none⟩ e'=putB (putB w g t #[a',b',c',d',e,f,u6,h,i]) g t #[a',b',c',d',e',f,u6,h,i]from m.setCell_eq 4 e',putB_putB];have n:=hB.put #[a',b',c',d',e',f,u6,h,i];rw[show(putB w g t #[a',b',c',d',e',f,u6,h,i]).setCell ⟨g,5,none⟩ f'=putB (putB w g t #[a',b',c',d',e',f,u6,h,i]) g t #[a',b',c',d',e',f',u6,h,i]from n.setCell_eq 5 f',putB_putB];have o:=hB.put #[a',b',c',d',e',f',u6,h,i];rw[show(putB w g t #[a',b',c',d',e',f',u6,h,i]).setCell ⟨g,6,none⟩ u6'=putB (putB w g t #[a',b',c',d',e',f',u6,h,i]) g t #[a',b',c',d',e',f',u6',h,i]from o.setCell_eq 6 u6',putB_putB];have p:=hB.put #[a',b',c',d',e',f',u6',h,i];rw[show(putB w g t #[a',b',c',d',e',f',u6',h,i]).setCell ⟨g,7,none⟩ h'=putB (putB w g t #[a',b',c',d',e',f',u6',h,i]) g t #[a',b',c',d',e',f',u6',h',i]from p.setCell_eq 7 h',putB_putB];have q:=hB.put #[a',b',c',d',e',f',u6',h',i];rw[show(putB w g t #[a',b',c',d',e',f',u6',h',i]).setCell ⟨g,8,none⟩ i'=putB (putB w g t #[a',b',c',d',e',f',u6',h',i]) g t #[a',b',c',d',e',f',u6',h',i']from q.setCell_eq 8 i',putB_putB]
theorem pst16{w:World}{g:Nat}{t:TypeId}{a b c d e f u6:Value}(hB:Blk w g t #[a,b,c,d,e,f,u6])(b' c' d' e' f' u6':Value):
 (((((w.setCell ⟨g,1,none⟩ b').setCell ⟨g,2,none⟩ c').setCell ⟨g,3,none⟩ d').setCell ⟨g,4,none⟩ e').setCell ⟨g,5,none⟩ f').setCell ⟨g,6,none⟩ u6'=putB w g t #[a,b',c',d',e',f',u6']:=by
 rw[show w.setCell ⟨g,1,none⟩ b'=putB w g t #[a,b',c,d,e,f,u6]from hB.setCell_eq 1 b'];have i:=hB.put #[a,b',c,d,e,f,u6];rw[show(putB w g t #[a,b',c,d,e,f,u6]).setCell ⟨g,2,none⟩ c'=putB (putB w g t #[a,b',c,d,e,f,u6]) g t #[a,b',c',d,e,f,u6]from i.setCell_eq 2 c',putB_putB];have j:=hB.put #[a,b',c',d,e,f,u6];rw[show(putB w g t #[a,b',c',d,e,f,u6]).setCell ⟨g,3,none⟩ d'=putB (putB w g t #[a,b',c',d,e,f,u6]) g t #[a,b',c',d',e,f,u6]from j.setCell_eq 3 d',putB_putB];have k:=hB.put #[a,b',c',d',e,f,u6];rw[show(putB w g t #[a,b',c',d',e,f,u6]).setCell ⟨g,4,none⟩ e'=putB (putB w g t #[a,b',c',d',e,f,u6]) g t #[a,b',c',d',e',f,u6]from k.setCell_eq 4 e',putB_putB];have l:=hB.put #[a,b',c',d',e',f,u6];rw[show(putB w g t #[a,b',c',d',e',f,u6]).setCell ⟨g,5,none⟩ f'=putB (putB w g t #[a,b',c',d',e',f,u6]) g t #[a,b',c',d',e',f',u6]from l.setCell_eq 5 f',putB_putB];have m:=hB.put #[a,b',c',d',e',f',u6];rw[show(putB w g t #[a,b',c',d',e',f',u6]).setCell ⟨g,6,none⟩ u6'=putB (putB w g t #[a,b',c',d',e',f',u6]) g t #[a,b',c',d',e',f',u6']from m.setCell_eq 6 u6',putB_putB]
theorem EqN.len7(z:EqN):(EqN.cells z).length=7:=rfl
theorem env_row{w0 w w':World}{g:Nat}{A:Option Addr}{len cap:Nat}{ts:List Tok}{k m:Nat}{r:Option Nat}(h:Env w0 g A len cap ts k m w)(hg:w.grownBy w' r)(hr:∀b,r=some b→g<b):Env w0 g A len cap ts k m w':=
 ⟨h.t,⟨hg.os.trans h.b.os,hg.tape.trans h.b.tape,hg.output.trans h.b.output,Nat.le_trans h.b.size hg.size,fun j hj=>(hg.block j (Nat.lt_of_lt_of_le hj h.b.size) (fun e=>by have:=hr j e.symm;have:=h.lo;omega)).trans (h.b.block j hj)⟩,h.lo,Blk.grown h.p hg (fun e=>by have:=hr g e.symm;omega),h.kk⟩
theorem grown_row{w wA w9:World}{g:Nat}{r:Option Nat}(h:w.grownBy wA (some g))(h2:wA.grownBy w9 r)(hr:∀b,r=some b→w.heap.size≤b):w.grownBy w9 (some g):=
 ⟨h2.os.trans h.os,h2.tape.trans h.tape,h2.output.trans h.output,Nat.le_trans h.size h2.size,fun k hk hne=>(h2.block k (Nat.lt_of_lt_of_le hk h.size) (fun e=>by have:=hr k e.symm;omega)).trans (h.block k hk hne)⟩
theorem lil_nil{Z:Type}{m:Nat}{cells:Z→List Value}{Pz:(Nat→Prop)→World→Z→Prop}(P:Nat→Prop)(w:World):LiL m cells Pz P w none 0 0 ([]:List Z):=
 ⟨⟨rfl,Nat.le_refl _,Nat.zero_le _,Rd.none_ _ _,fun z hz=>by cases hz⟩,fun hn=>absurd hn (Nat.lt_irrefl 0),fun _=>NF.nil w⟩
theorem Tryz.infoReset:(Tryz.prog.info? 89).map (fun i=>(i.zero,i.size,i.bytes))=some (some (.agg #[.string ⟨#[]⟩,.i 0,.i 0,.i 0,.string ⟨#[]⟩,.i 0,.sn]),7,88):=by kernel_rfl
theorem unex_bind{α β:Type}{ts:List Tok}{k:Nat}(f:α→Nat→PR β)(h:True):(unex ts k:PR α).bind f=unex ts k:=by
 unfold unex failP
 split<;>rfl
def EdV(d:EdP)(w:World)(e:Ending)(w':World):Prop:=∃x:EdN,e= .returned x.val∧x.pl=d∧Hid (PzG (fun b=>w.heap.size≤b) w' x)
theorem pEdge{w0 w:World}{g:Nat}{A:Option Addr}{len cap:Nat}{ts:List Tok}{k:Nat}(h:Env w0 g A len cap ts k 0 w)(hk:k≤100000)(hR:RX w0)(hX:FX w0)(hD:DigTs ts):Calls Tryz.prog 97 #[.pointer (some ⟨g,0,none⟩)] w (PRP EdV w0 g A len cap ts 0 (edgeP nameP ts k) w):=by
 obtain⟨l,bk⟩:=eX (edgeP nameP ts k);have fb:=hI bk;rw[←bk];clear bk;have g9:ts.length≤100000:=(by have:=h.t.hl;have:=h.t.hs;omega)
 go_in
 go_upto_region 1 with(fail);generalize hw1:World.alloc _ _=w1;obtain⟨O1,F1⟩:=gn1 hw1;clear hw1;have x:=hI (show some w.heap.size≠some g from fun e=>by have:=h.gl;injection e with e;omega)
 have db:w.heap.size≠g:=fun e=>x.o (by rw[e])
 have ab:w0.heap.size≤w.heap.size:=h.b.size;have dc:=hI (h.belowW O1.o);have dd:=hI (grown_of (some g) O1.o);clear h;have de:=hI (show l=(sumE nameP ts k).bind fun g1 k1=>(dirP ts k1).bind fun d k2=>(wantP ts true kGoto k2).bind fun _ k3=>(nmR nameP ts k3).bind fun n k4=>(withP nameP ts k4).bind fun rs k5=>(wantP ts false [59] k5).bind fun _ k6=> .ok ⟨g1,d,n,rs⟩ k6 from fb.o);have c:=hI (pSumE dc.o (by omega) hR hX hD)
 cases hn1:sumE nameP ts k with
 | out=>
  rw[hn1]at c;clear hn1;go_wp2_with fail;refine c.o.mono ?_;rintro e w9 j
  exact j.elim
 | bad ln co er=>
  rw[hn1]at c;have p:=hI (show l= .bad ln co er by rw[de.o,hn1]<;>rfl);clear hn1;go_wp2_with fail;refine c.o.mono ?_;rintro e w9 ⟨rfl,q⟩;go_wp2_with fail;rw[p.o]
  exact⟨rfl,prp_bad (hI (grown_tr dd.o q.o))⟩
 | ok g1 k1=>
  rw[hn1]at c;have ha:=(sumE_fw (nm:=nameP) (ts:=ts) k) _ _ hn1;have bl:=hI (show l=(dirP ts k1).bind fun d k2=>(wantP ts true kGoto k2).bind fun _ k3=>(nmR nameP ts k3).bind fun n k4=>(withP nameP ts k4).bind fun rs k5=>(wantP ts false [59] k5).bind fun _ k6=> .ok ⟨g1,d,n,rs⟩ k6 by rw[de.o,hn1]<;>rfl);clear hn1;go_wp2_with fail;refine c.o.mono ?_;rintro e wq1 ⟨j,bm,df⟩;obtain⟨v,j,fc⟩:=j
  cases j
  obtain⟨lo,a7⟩:=eX (w1.heap.size);obtain⟨hi,dg⟩:=eX (wq1.heap.size);have hc:g<lo:=(by rw[a7];exact dc.o.gl);have hd:w.heap.size<lo:=(by rw[a7];exact F1.o.lt);have hf:lo≤hi:=(by rw[a7,dg];exact bm.o.size);have NX:=hI (show InA (fun b=>lo≤b∧b<hi) wq1 g1 v by rw[a7,dg];exact InA.lt fc.o);have dh:=hI (F1.o.grown bm.o x.o)
  go_upto_block 0 with(fail)
  generalize m:World.alloc _ _=wb2;obtain⟨a8,bn⟩:=gn1 m;clear m;obtain⟨i,bo⟩:=eX (wq1.heap.size);have o:=hI (show some i≠some g from fun e=>by have:=df.o.gl;injection e with e;omega);have Y:w.heap.size<i:=(by rw[bo];exact dh.o.lt);rw[←bo]at bn ⊢;have fe:hi≤i:=(by omega);clear bo;have di:=hI (grown_tr (grown_tr dd.o bm.o) (grown_of (some g) a8.o));have dj:=dh.o.b9 a8;have dk:=NX.o.b9 a8
  go_cut [10] (fun s10 wx=>∃(d:Int) (k2:Nat),Hid (l=(wantP ts true kGoto k2).bind fun _ k3=>(nmR nameP ts k3).bind fun n k4=>(withP nameP ts k4).bind fun rs k5=>(wantP ts false [59] k5).bind fun _ k6=> .ok ⟨g1,d,n,rs⟩ k6)∧k2≤ts.length∧1≤d∧d≤2∧Hid (Env w0 g A len cap ts k2 0 wx)∧Hid (w.grownBy wx (some g))∧Hid (Blk wx w.heap.size 94 #[.int .i64 0,.int .i64 0,.int .i64 0,.string ⟨#[]⟩,.int .i64 0,.slice none 0 0,.int .i64 0,.string ⟨#[]⟩,.slice none 0 0])∧Hid (Blk wx i 94 #[.int .i64 v.h.kind,.int .i64 v.h.n,.int .i64 v.h.d,.string v.h.name,.int .i64 v.h.k,.slice v.A v.len v.cap,.int .i64 d,.string ⟨#[]⟩,.slice none 0 0])∧Hid (InA (fun b=>lo≤b∧b<hi) wx g1 v))
  case first=>
   have aq:=hI (pAccept (df.o.belowW a8.o) (by omega) ⟨#[114,105,115,101,115]⟩);rw[show kwP (⟨#[114,105,115,101,115]⟩:ByteArray).data.toList=true by decide,show(⟨#[114,105,115,101,115]⟩:ByteArray).data.toList=kRises from rfl]at aq
   cases hb3:isS true ts k1 kRises with
   | true=>
    have hg:=isS_lt hb3;rw[hb3]at aq;have ff:=hI (show l=(wantP ts true kGoto (k1+1)).bind fun _ k3=>(nmR nameP ts k3).bind fun n k4=>(withP nameP ts k4).bind fun rs k5=>(wantP ts false [59] k5).bind fun _ k6=> .ok ⟨g1,1,n,rs⟩ k6 by rw[bl.o];unfold dirP;rw[hb3];rfl);clear hb3;go_wp2_with fail;refine aq.o.mono ?_;rintro e wa3 ⟨rfl,U,ar⟩;simp only[if_true]at ar;have a9:=hI (bn.o.grown U.o o.o);have bp:=hI (ina_mv dk.o (fun b hb e=>by injection e with e;omega) U.o);obtain⟨y,z,B,C,D,E,F,G,H,I,J,L,M,N,O,P,Q,R⟩:=a9.o.all9;go_wp2_with fail;have au:=(show wa3.setCell ⟨i,6,none⟩ (.int .i64 1)=putB wa3 i 94 #[.int .i64 v.h.kind,.int .i64 v.h.n,.int .i64 v.h.d,.string v.h.name,.int .i64 v.h.k,.slice v.A v.len v.cap,.int .i64 1,.string ⟨#[]⟩,.slice none 0 0]from a9.o.setCell_eq 6 _);clear y z B C D E F G H I J L M N O P Q R;obtain⟨y,z,B,C,D,E,F,G,H,I,J,L,M,N,O,P,Q,R⟩:=a9.o.all9;rw[au];obtain⟨ag,bq⟩:=eX (#[.int .i64 v.h.kind,.int .i64 v.h.n,.int .i64 v.h.d,.string v.h.name,.int .i64 v.h.k,.slice v.A v.len v.cap,.int .i64 1,.string ⟨#[]⟩,.slice none 0 0]:Array Value);have br:=hI (a9.o.put ag);have dl:=hI (grown_new (grown_tr di.o U.o) (Nat.le_of_lt Y) 94 ag);have dm:=hI (ar.o.far (r:=i) (fun e=>o.o (by rw[e])) (Nat.le_trans ab (Nat.le_of_lt Y)) 94 ag);have dn:=hI ((dj.o.grown U.o x.o).far (g':=i) (t':=94) (by omega) ag);have dp:=hI (bp.o.far (r:=i) (by omega) 94 ag);obtain⟨fg,m⟩:=eX (putB wa3 i 94 ag);have hh:wa3.heap.size≤fg.heap.size:=(by rw[m,putB_size];exact Nat.le_refl _);rw[←bq];rw[←m]at dl dm dn br dp ⊢;clear m y z B C D E F G H I J L M N O P Q R;rw[bq]at br;clear bq;clear au
    go_meet
    exact⟨1,k1+1,ff,by omega,by decide,by decide,dm,dl,dn,br,dp⟩
   | false=>
    rw[hb3]at aq;have dq:=hb3;clear hb3;go_wp2_with fail;refine aq.o.mono ?_;rintro e wa3 ⟨rfl,U,ar⟩;simp only[Bool.false_eq_true,if_false]at ar;have dr:=hI (grown_tr di.o U.o);have bp:=hI (ina_mv dk.o (fun b hb e=>by injection e with e;omega) U.o);have av:=hI (pAccept ar.o (by omega) ⟨#[102,97,108,108,115]⟩);rw[show kwP (⟨#[102,97,108,108,115]⟩:ByteArray).data.toList=true by decide,show(⟨#[102,97,108,108,115]⟩:ByteArray).data.toList=kFalls from rfl]at av
    cases hb5:isS true ts k1 kFalls with
    | true=>
     have hj:=isS_lt hb5;rw[hb5]at av;have fh:=hI (show l=(wantP ts true kGoto (k1+1)).bind fun _ k3=>(nmR nameP ts k3).bind fun n k4=>(withP nameP ts k4).bind fun rs k5=>(wantP ts false [59] k5).bind fun _ k6=> .ok ⟨g1,2,n,rs⟩ k6 by rw[bl.o];unfold dirP;rw[dq,hb5];rfl);clear hb5;go_wp2_with fail;refine av.o.mono ?_;rintro e wa5 ⟨rfl,ah,aw⟩;simp only[if_true]at aw;have ba:=hI ((bn.o.grown U.o o.o).grown ah.o o.o);have fi:=hI (ina_mv bp.o (fun b hb e=>by injection e with e;omega) ah.o);obtain⟨y,z,B,C,D,E,F,G,H,I,J,L,M,N,O,P,Q,R⟩:=ba.o.all9;go_wp2_with fail;have au:=(show wa5.setCell ⟨i,6,none⟩ (.int .i64 2)=putB wa5 i 94 #[.int .i64 v.h.kind,.int .i64 v.h.n,.int .i64 v.h.d,.string v.h.name,.int .i64 v.h.k,.slice v.A v.len v.cap,.int .i64 2,.string ⟨#[]⟩,.slice none 0 0]from ba.o.setCell_eq 6 _);clear y z B C D E F G H I J L M N O P Q R;obtain⟨y,z,B,C,D,E,F,G,H,I,J,L,M,N,O,P,Q,R⟩:=ba.o.all9;rw[au];obtain⟨ai,bs⟩:=eX (#[.int .i64 v.h.kind,.int .i64 v.h.n,.int .i64 v.h.d,.string v.h.name,.int .i64 v.h.k,.slice v.A v.len v.cap,.int .i64 2,.string ⟨#[]⟩,.slice none 0 0]:Array Value);have bt:=hI (ba.o.put ai);have ds:=hI (grown_new (grown_tr dr.o ah.o) (Nat.le_of_lt Y) 94 ai);have dt:=hI (aw.o.far (r:=i) (fun e=>o.o (by rw[e])) (Nat.le_trans ab (Nat.le_of_lt Y)) 94 ai);have du:=hI (((dj.o.grown U.o x.o).grown ah.o x.o).far (g':=i) (t':=94) (by omega) ai);have dv:=hI (fi.o.far (r:=i) (by omega) 94 ai);obtain⟨fj,m⟩:=eX (putB wa5 i 94 ai);have hm:wa5.heap.size≤fj.heap.size:=(by rw[m,putB_size];exact Nat.le_refl _);rw[←bs];rw[←m]at ds dt du bt dv ⊢;clear m y z B C D E F G H I J L M N O P Q R;rw[bs]at bt;clear bs;clear au
     go_meet
     exact⟨2,k1+1,fh,by omega,by decide,by decide,dt,ds,du,bt,dv⟩
    | false=>
     rw[hb5]at av;have p:=hI (show l=unex ts k1 by rw[bl.o];unfold dirP;rw[dq,hb5];exact unex_bind _ trivial);clear hb5;go_wp2_with fail;refine av.o.mono ?_;rintro e wa5 ⟨rfl,ah,aw⟩;simp only[Bool.false_eq_true,if_false]at aw;go_wp2_with fail;refine aw.o.unx.mono ?_;rintro e w9 ⟨he,fk⟩;obtain⟨V,bu⟩:=panU_pan ts k1;have HC:=hI bu;rw[bu]at he;subst he;clear bu;go_wp2_with fail;rw[p.o];exact⟨rfl,prp_unex HC.o.symm (hI (grown_tr (grown_tr dr.o ah.o) (grown_of _ fk.o)))⟩
  obtain⟨d,k2,HD,hn,ho,hp,dy,bv,dz,d0,d1⟩:=hcut;obtain⟨w3,hw⟩:=eX (wc);rw[←hw]at dy bv dz d0 d1 ⊢;clear hw;have c:=hI (pWant dy.o (by omega) kGoto true (by decide))
  cases hn41:wantP ts true kGoto k2 with
  | out=>
   rw[hn41]at c;clear hn41;go_wp2_with fail;refine c.o.mono ?_;rintro e w9 j
   exact j.elim
  | bad ln co er=>
   rw[hn41]at c;have p:=hI (show l= .bad ln co er by rw[HD.o,hn41]<;>rfl);clear hn41;go_wp2_with fail;refine c.o.mono ?_;rintro e w9 ⟨rfl,q⟩;go_wp2_with fail;rw[p.o]
   exact⟨rfl,prp_bad (hI (grown_tr bv.o q.o))⟩
  | ok u3 k3=>
   rw[hn41]at c;have hr:=(want_fw (ts:=ts) true kGoto k2) _ _ hn41;have d3:=hI (show l=(nmR nameP ts k3).bind fun n k4=>(withP nameP ts k4).bind fun rs k5=>(wantP ts false [59] k5).bind fun _ k6=> .ok ⟨g1,d,n,rs⟩ k6 by rw[HD.o,hn41]<;>rfl);clear hn41;go_wp2_with fail;refine c.o.mono ?_;rintro e wq41 ⟨j,bb,fm⟩
   cases j
   have d4:=hI (grown_tr bv.o bb.o);have fn:=hI (ina_mv d1.o (fun b hb e=>by injection e with e;omega) bb.o);have c:=hI (pNm fm.o (by omega))
   cases hn42:nmR nameP ts k3 with
   | out=>
    rw[hn42]at c;clear hn42;go_wp2_with fail;refine c.o.mono ?_;rintro e w9 j
    exact j.elim
   | bad ln co er=>
    rw[hn42]at c;have p:=hI (show l= .bad ln co er by rw[d3.o,hn42]<;>rfl);clear hn42;go_wp2_with fail;refine c.o.mono ?_;rintro e w9 ⟨rfl,q⟩;go_wp2_with fail;rw[p.o]
    exact⟨rfl,prp_bad (hI (grown_tr d4.o q.o))⟩
   | ok n k4=>
    rw[hn42]at c;have ht:=(nmR_fw (nm:=nameP) (ts:=ts) k3) _ _ hn42;have d5:=hI (show l=(withP nameP ts k4).bind fun rs k5=>(wantP ts false [59] k5).bind fun _ k6=> .ok ⟨g1,d,n,rs⟩ k6 by rw[d3.o,hn42]<;>rfl);have hu:=nmR_len hn42;clear hn42;go_wp2_with fail;refine c.o.mono ?_;rintro e wq42 ⟨j,bc,fo⟩
    cases j
    have bw:=hI ((d0.o.grown bb.o o.o).grown bc.o o.o);have fp:=hI (ina_mv fn.o (fun b hb e=>by injection e with e;omega) bc.o);obtain⟨y,z,B,C,D,E,F,G,H,I,J,L,M,N,O,P,Q,R⟩:=bw.o.all9;go_upto_region 9 with(fail);rw[(show wq42.setCell ⟨i,7,none⟩ (.string ⟨n.toArray⟩)=putB wq42 i 94 #[.int .i64 v.h.kind,.int .i64 v.h.n,.int .i64 v.h.d,.string v.h.name,.int .i64 v.h.k,.slice v.A v.len v.cap,.int .i64 d,.string ⟨n.toArray⟩,.slice none 0 0]from bw.o.setCell_eq 7 _)];obtain⟨aj,bx⟩:=eX (#[.int .i64 v.h.kind,.int .i64 v.h.n,.int .i64 v.h.d,.string v.h.name,.int .i64 v.h.k,.slice v.A v.len v.cap,.int .i64 d,.string ⟨n.toArray⟩,.slice none 0 0]:Array Value);have bd:=hI (bw.o.put aj);have bz:=hI (grown_new (grown_tr d4.o bc.o) (Nat.le_of_lt Y) 94 aj);have d6:=hI (fo.o.far (r:=i) (fun e=>o.o (by rw[e])) (Nat.le_trans ab (Nat.le_of_lt Y)) 94 aj);have b0:=hI (((dz.o.grown bb.o x.o).grown bc.o x.o).far (g':=i) (t':=94) (by omega) aj);have b1:=hI (fp.o.far (r:=i) (by omega) 94 aj);obtain⟨fq,m⟩:=eX (putB wq42 i 94 aj);have hv:wq42.heap.size≤fq.heap.size:=(by rw[m,putB_size];exact Nat.le_refl _);rw[←bx];rw[←m]at bz d6 b0 bd b1 ⊢;clear m y z B C D E F G H I J L M N O P Q R;rw[bx]at bd;clear bx;have ax:=hI (pAccept d6.o (by omega) ⟨#[119,105,116,104]⟩);rw[show kwP (⟨#[119,105,116,104]⟩:ByteArray).data.toList=true by decide,show(⟨#[119,105,116,104]⟩:ByteArray).data.toList=kWith from rfl]at ax
    cases hb44:isS true ts k4 kWith with
    | true=>
     have hy:=isS_lt hb44;rw[hb44]at ax;have be:=hI (show l=(resP nameP ts (ts.length+1) (k4+1) []).bind fun rs k5=>(wantP ts false [59] k5).bind fun _ k6=> .ok ⟨g1,d,n,rs⟩ k6 by rw[d5.o];unfold withP;rw[hb44];rfl);clear hb44;go_wp2_with fail;refine ax.o.mono ?_;rintro e wa44 ⟨rfl,W,ay⟩;simp only[if_true]at ay;have d7:=hI (bd.o.grown W.o o.o);have b2:=hI (ina_mv b1.o (fun b hb e=>by injection e with e;omega) W.o);go_wp2_with fail;have hz:i+1≤wa44.heap.size:=d7.o.lt;have h0:g<i:=(by have:=fe;omega)
     go_loopg [] (ts.length+1) (fun fu wr=>∃(k5:Nat) (s:List EqN) (rv:Value),Hid (l=(resP nameP ts fu k5 (s.map EqN.pl)).bind fun rs k5=>(wantP ts false [59] k5).bind fun _ k6=> .ok ⟨g1,d,n,rs⟩ k6)∧k5≤ts.length∧ts.length<fu+k5∧s.length≤k5∧Hid (Env w0 g A len cap ts k5 0 wr)∧Hid (w.grownBy wr (some g))∧Hid (Blk wr w.heap.size 94 #[.int .i64 0,.int .i64 0,.int .i64 0,.string ⟨#[]⟩,.int .i64 0,.slice none 0 0,.int .i64 0,.string ⟨#[]⟩,.slice none 0 0])∧Hid (Blk wr i 94 #[.int .i64 v.h.kind,.int .i64 v.h.n,.int .i64 v.h.d,.string v.h.name,.int .i64 v.h.k,.slice v.A v.len v.cap,.int .i64 d,.string ⟨n.toArray⟩,rv])∧Hid (InA (fun b=>lo≤b∧b<hi) wr g1 v)∧Hid (Mk 89 7 EqN.cells PzQ (i+1) wr rv s))
     case atStart=>exact⟨k4+1,[],.slice none 0 0,be,by omega,by omega,by simp,ay,(hI (grown_tr bz.o W.o)),(hI (b0.o.grown W.o x.o)),d7,b2,hI (Mk.nil _ _ _ _ _ _)⟩
     obtain⟨k5,s,rv,HQ,h1,h2,h3,fs,d8,ft,d9,fv,ea⟩:=hrel
     cases gk with
     | zero=>exfalso;omega
     | succ fu=>
      have eb:=hI (show l=(nmR nameP ts k5).bind fun n2 k7=>(wantP ts false [61] k7).bind fun _ k8=>(sumE nameP ts k8).bind fun e2 k9=>(if isS false ts k9 [44]then resP nameP ts fu (k9+1) (s.map EqN.pl++[⟨n2,e2⟩])else .ok (s.map EqN.pl++[⟨n2,e2⟩]) k9).bind fun rs k5=>(wantP ts false [59] k5).bind fun _ k6=> .ok ⟨g1,d,n,rs⟩ k6 by rw[HQ.o,resP];simp only[bind_assoc']);have h4:i<wr.heap.size:=d9.o.lt
      have ec:∀kb,rv.ownBlock=some kb→i+1≤kb∧kb<wr.heap.size:=fun kb h=>ea.o.own.lt kb h
      have c:=hI (pNm fs.o (by omega))
      cases hn61:nmR nameP ts k5 with
      | out=>
       rw[hn61]at c;clear hn61;go_wp2_with fail;refine c.o.mono ?_;rintro e w9 j
       exact j.elim
      | bad ln co er=>
       rw[hn61]at c;have p:=hI (show l= .bad ln co er by rw[eb.o,hn61]<;>rfl);clear hn61;go_wp2_with fail;refine c.o.mono ?_;rintro e w9 ⟨rfl,q⟩;go_wp2_with fail;rw[p.o]
       exact⟨rfl,prp_bad (hI (grown_tr d8.o q.o))⟩
      | ok n2 k7=>
       rw[hn61]at c;have h7:=(nmR_fw (nm:=nameP) (ts:=ts) k5) _ _ hn61;have ed:=hI (show l=(wantP ts false [61] k7).bind fun _ k8=>(sumE nameP ts k8).bind fun e2 k9=>(if isS false ts k9 [44]then resP nameP ts fu (k9+1) (s.map EqN.pl++[⟨n2,e2⟩])else .ok (s.map EqN.pl++[⟨n2,e2⟩]) k9).bind fun rs k5=>(wantP ts false [59] k5).bind fun _ k6=> .ok ⟨g1,d,n,rs⟩ k6 by rw[eb.o,hn61]<;>rfl);have h8:=nmR_len hn61;clear hn61;go_wp2_with fail;refine c.o.mono ?_;rintro e wq61 ⟨j,al,ee⟩
       cases j
       have ef:=hI (ft.o.grown al.o x.o);have eg:=hI (d9.o.grown al.o o.o);have fw:=hI (ina_mv fv.o (fun b hb e=>by injection e with e;omega) al.o);go_upto_region 11 with(fail);generalize m:World.alloc _ _=wb62;obtain⟨am,eh⟩:=gn1 m;clear m;obtain⟨S,az⟩:=eX (wq61.heap.size);have b3:=hI (show some S≠some g from fun e=>by have:=ee.o.gl;injection e with e;omega);have ei:w.heap.size<S:=(by rw[az];exact ef.o.lt);rw[←az]at eh ⊢;have h9:wr.heap.size≤S:=(by rw[az];exact al.o.size);have ia:i<S:=(by rw[az];exact eg.o.lt);have ib:hi≤S:=(by omega);clear az;have ej:=hI (grown_tr (grown_tr d8.o al.o) (grown_of (some g) am.o));have c:=hI (pWant (ee.o.belowW am.o) (by omega) [61] false (by decide))
       cases hn63:wantP ts false [61] k7 with
       | out=>
        rw[hn63]at c;clear hn63;go_wp2_with fail;refine c.o.mono ?_;rintro e w9 j
        exact j.elim
       | bad ln co er=>
        rw[hn63]at c;have p:=hI (show l= .bad ln co er by rw[ed.o,hn63]<;>rfl);clear hn63;go_wp2_with fail;refine c.o.mono ?_;rintro e w9 ⟨rfl,q⟩;go_wp2_with fail;rw[p.o]
        exact⟨rfl,prp_bad (hI (grown_tr ej.o q.o))⟩
       | ok u4 k8=>
        rw[hn63]at c;have ic:=(want_fw (ts:=ts) false [61] k7) _ _ hn63;have ek:=hI (show l=(sumE nameP ts k8).bind fun e2 k9=>(if isS false ts k9 [44]then resP nameP ts fu (k9+1) (s.map EqN.pl++[⟨n2,e2⟩])else .ok (s.map EqN.pl++[⟨n2,e2⟩]) k9).bind fun rs k5=>(wantP ts false [59] k5).bind fun _ k6=> .ok ⟨g1,d,n,rs⟩ k6 by rw[ed.o,hn63]<;>rfl);clear hn63;go_wp2_with fail;refine c.o.mono ?_;rintro e wq63 ⟨j,an,el⟩
        cases j
        have em:=hI (grown_tr ej.o an.o);have en:=hI (eh.o.grown an.o b3.o);have fx:=hI (ina_mv (fw.o.belowW am.o) (fun b hb e=>by injection e with e;omega) an.o);have c:=hI (pSumE el.o (by omega) hR hX hD)
        cases hn64:sumE nameP ts k8 with
        | out=>
         rw[hn64]at c;clear hn64;go_wp2_with fail;refine c.o.mono ?_;rintro e w9 j
         exact j.elim
        | bad ln co er=>
         rw[hn64]at c;have p:=hI (show l= .bad ln co er by rw[ek.o,hn64]<;>rfl);clear hn64;go_wp2_with fail;refine c.o.mono ?_;rintro e w9 ⟨rfl,q⟩;go_wp2_with fail;rw[p.o]
         exact⟨rfl,prp_bad (hI (grown_tr em.o q.o))⟩
        | ok e2 k9=>
         rw[hn64]at c;have id:=(sumE_fw (nm:=nameP) (ts:=ts) k8) _ _ hn64;have eo:=hI (show l=(if isS false ts k9 [44]then resP nameP ts fu (k9+1) (s.map EqN.pl++[⟨n2,e2⟩])else .ok (s.map EqN.pl++[⟨n2,e2⟩]) k9).bind fun rs k5=>(wantP ts false [59] k5).bind fun _ k6=> .ok ⟨g1,d,n,rs⟩ k6 by rw[ek.o,hn64]<;>rfl);clear hn64;go_wp2_with fail;refine c.o.mono ?_;rintro e wq64 ⟨j,ac,fy⟩;obtain⟨a,j,fz⟩:=j
         cases j
         obtain⟨bf,bg⟩:=eX (wq63.heap.size);obtain⟨ep,eq⟩:=eX (wq64.heap.size);have ie:g<bf:=(by rw[bg];exact el.o.gl);have ig:S<bf:=(by rw[bg];exact en.o.lt);have ii:bf≤ep:=(by rw[bg,eq];exact ac.o.size);have f0:=hI (show InA (fun b=>bf≤b∧b<ep) wq64 e2 a by rw[bg,eq];exact InA.lt fz.o);have b4:=hI (en.o.grown ac.o b3.o);have f1:=hI (ina_mv fx.o (fun b hb e=>by injection e with e;omega) ac.o);obtain⟨b5,b6,b7,b8,ca,cb,cc,cd,ce,cf,cg,ch,ci,cj⟩:=b4.o.all7;go_upto_region 13 with(fail);rw[pst16 b4.o];obtain⟨X,ck⟩:=eX (#[.string ⟨n2.toArray⟩,.int .i64 a.h.kind,.int .i64 a.h.n,.int .i64 a.h.d,.string a.h.name,.int .i64 a.h.k,.slice a.A a.len a.cap]:Array Value);have cl:=hI (b4.o.put X);have es:=hI (grown_new (grown_tr em.o ac.o) (Nat.le_of_lt ei) 89 X);have et:=hI (fy.o.far (r:=S) (fun e=>b3.o (by rw[e])) (Nat.le_trans ab (Nat.le_of_lt ei)) 89 X);have eu:=hI ((((ef.o.belowW am.o).grown an.o x.o).grown ac.o x.o).far (g':=S) (t':=89) (by omega) X);have cm:=hI ((((eg.o.belowW am.o).grown an.o o.o).grown ac.o o.o).far (g':=S) (t':=89) (by omega) X);have ev:=hI (f1.o.far (r:=S) (by omega) 89 X);have ew:=hI (f0.o.far (r:=S) (by omega) 89 X);have ex:=hI (grown_new (r:=S) (grown_tr (grown_tr (grown_tr (grown_tr (World.grownBy.refl wr (some g)) al.o) (grown_of (some g) am.o)) an.o) ac.o) (by omega) 89 X);obtain⟨Z,m⟩:=eX (putB wq64 S 89 X);have ij:wq64.heap.size≤Z.heap.size:=(by rw[m,putB_size];exact Nat.le_refl _);rw[←ck];rw[←m]at es et eu cm cl ev ew ex ⊢;clear m b5 b6 b7 b8 ca cb cc cd ce cf cg ch ci cj;rw[ck]at cl;clear ck
         have f2:(⟨n2.toArray⟩:ByteArray).size≤maxLen:=by
          show n2.toArray.size≤_
          rw[List.size_toArray];unfold maxLen
          omega
         have ad:=hI (below_box Z (Obj.cells #[.string ⟨n2.toArray⟩,.int .i64 a.h.kind,.int .i64 a.h.n,.int .i64 a.h.d,.string a.h.name,.int .i64 a.h.k,.slice a.A a.len a.cap] 89));have f3:=hI ((ea.o.moved pzQ (.inr ⟨g,rfl,by omega⟩) ex.o).belowW pzQ ad.o);have f4:=hI (show PzQ (fun b=>i+1≤b∧b<(Z.alloc (Obj.cells #[.string ⟨n2.toArray⟩,.int .i64 a.h.kind,.int .i64 a.h.n,.int .i64 a.h.d,.string a.h.name,.int .i64 a.h.k,.slice a.A a.len a.cap] 89)).heap.size∧some b≠rv.ownBlock) (Z.alloc (Obj.cells #[.string ⟨n2.toArray⟩,.int .i64 a.h.kind,.int .i64 a.h.n,.int .i64 a.h.d,.string a.h.name,.int .i64 a.h.k,.slice a.A a.len a.cap] 89)) ⟨⟨n2.toArray⟩,a,e2⟩from⟨(ew.o.belowW ad.o).weaken (fun b hb=>⟨by omega,by rw[World.size_alloc];omega,fun e=>by have:=ec b e.symm;omega⟩),f2⟩);have f5:∀u∈EqN.cells (⟨⟨n2.toArray⟩,a,e2⟩:EqN),u.oneCell'=true:=(by simp[EqN.cells,Value.oneCell']);have f6:i+1≤(Z.alloc (Obj.cells #[.string ⟨n2.toArray⟩,.int .i64 a.h.kind,.int .i64 a.h.n,.int .i64 a.h.d,.string a.h.name,.int .i64 a.h.k,.slice a.A a.len a.cap] 89)).heap.size:=(by rw[World.size_alloc];omega);obtain⟨y,z,B,C,D,E,F,G,H,I,J,L,M,N,O,P,Q,R⟩:=cm.o.all9;obtain⟨b5,b6,b7,b8,ca,cb,cc,cd,ce,cf,cg,ch,ci,cj⟩:=cl.o.all7;obtain⟨i0,ti,ez,e0,e1⟩:=info_parts Tryz.infoReset
         go_wp2_with (at_builtin;refine wpList_append_mk rfl _ _ _ rfl pzQ EqN.len7 rfl f3.o f4.o i0 _ 88 Tryz.underlying92 ti ez e0 e1 rfl (by omega) (by omega) (by omega) Z.heap.size _ rfl (show Blk (Z.alloc (Obj.cells #[.string ⟨n2.toArray⟩,.int .i64 a.h.kind,.int .i64 a.h.n,.int .i64 a.h.d,.string a.h.name,.int .i64 a.h.k,.slice a.A a.len a.cap] 89)) Z.heap.size 89 (EqN.cells (⟨⟨n2.toArray⟩,a,e2⟩:EqN)).toArray from Blk.new _ _ _) f5 f6 ?_)
         intro v9 w9 hmk hgr hob;have e3:=hI hmk;have a0:=hI hgr;clear hmk hgr hob ti ez e0 e1 y z B C D E F G H I J L M N O P Q R b5 b6 b7 b8 ca cb cc cd ce cf cg ch ci cj;obtain⟨A9,V,e4,_⟩:=e3.o.lies pzQ;obtain⟨L9,e5⟩:=eX ((s++[(⟨⟨n2.toArray⟩,a,e2⟩:EqN)]).length);rw[←e5]at e4;clear e5;subst e4
         have a2:∀b,rv.ownBlock=some b→i+1≤b:=fun b h=>(ec b h).1
         have f8:=hI (env_row (et.o.belowW ad.o) a0.o (fun b h=>by have:=a2 b h;omega));have q:=hI (grown_row (grown_tr es.o (grown_of (some g) ad.o)) a0.o (fun b h=>by have:=a2 b h;omega));have f9:=hI ((eu.o.belowW ad.o).grown a0.o (fun e=>by have:=a2 _ e.symm;omega));have cn:=hI ((cm.o.belowW ad.o).grown a0.o (fun e=>by have:=a2 _ e.symm;omega));have ga:=hI (ina_mv (ev.o.belowW ad.o) (fun b hb e=>by have:=a2 b e.symm;omega) a0.o);have a3:=hI (e3.o.moved pzQ (.inr ⟨i,rfl,Nat.lt_succ_self _⟩) (putB_grown w9 i 94 #[.int .i64 v.h.kind,.int .i64 v.h.n,.int .i64 v.h.d,.string v.h.name,.int .i64 v.h.k,.slice v.A v.len v.cap,.int .i64 d,.string ⟨n.toArray⟩,.slice A9 L9 V]));obtain⟨y,z,B,C,D,E,F,G,H,I,J,L,M,N,O,P,Q,R⟩:=cn.o.all9;go_upto_region 14 with(fail);rw[(show w9.setCell ⟨i,8,none⟩ (.slice A9 L9 V)=putB w9 i 94 #[.int .i64 v.h.kind,.int .i64 v.h.n,.int .i64 v.h.d,.string v.h.name,.int .i64 v.h.k,.slice v.A v.len v.cap,.int .i64 d,.string ⟨n.toArray⟩,.slice A9 L9 V]from cn.o.setCell_eq 8 _)];obtain⟨ao,cp⟩:=eX (#[.int .i64 v.h.kind,.int .i64 v.h.n,.int .i64 v.h.d,.string v.h.name,.int .i64 v.h.k,.slice v.A v.len v.cap,.int .i64 d,.string ⟨n.toArray⟩,.slice A9 L9 V]:Array Value);have bh:=hI (cn.o.put ao);have cq:=hI (grown_new q.o (Nat.le_of_lt Y) 94 ao);have e6:=hI (f8.o.far (r:=i) (fun e=>o.o (by rw[e])) (Nat.le_trans ab (Nat.le_of_lt Y)) 94 ao);have cr:=hI (f9.o.far (g':=i) (t':=94) (by omega) ao);have cs:=hI (ga.o.far (r:=i) (by omega) 94 ao);obtain⟨gb,m⟩:=eX (putB w9 i 94 ao);have ik:w9.heap.size≤gb.heap.size:=(by rw[m,putB_size];exact Nat.le_refl _);rw[←cp]at a3 ⊢;rw[←m]at cq e6 cr bh cs a3 ⊢;clear m y z B C D E F G H I J L M N O P Q R;rw[cp]at bh;clear cp;have a4:=hI (pAccept e6.o (by omega) ⟨#[44]⟩);rw[show kwP (⟨#[44]⟩:ByteArray).data.toList=false by decide,show(⟨#[44]⟩:ByteArray).data.toList=[44]from rfl]at a4
         cases hb68:isS false ts k9 [44]with
         | true=>
          have il:=isS_lt hb68;rw[hb68]at a4;have gc:=hI (show l=(resP nameP ts fu (k9+1) ((s++[(⟨⟨n2.toArray⟩,a,e2⟩:EqN)]).map EqN.pl)).bind fun rs k5=>(wantP ts false [59] k5).bind fun _ k6=> .ok ⟨g1,d,n,rs⟩ k6 by rw[eo.o,hb68,if_pos rfl,List.map_append];rfl);clear hb68;go_wp2_with fail;refine a4.o.mono ?_;rintro e wa68 ⟨rfl,T,a5⟩;simp only[if_true]at a5;have ct:=hI (ina_mv cs.o (fun b hb e=>by injection e with e;omega) T.o);have bi:=hI (a3.o.moved pzQ (.inr ⟨g,rfl,by omega⟩) T.o);go_wp2
          go_roundg fu
          case measure=>omega
          case rel=>exact⟨k9+1,s++[(⟨⟨n2.toArray⟩,a,e2⟩:EqN)],.slice A9 L9 V,gc,by omega,by omega,by rw[List.length_append];show s.length+1≤_;omega,a5,(hI (grown_tr cq.o T.o)),(hI (cr.o.grown T.o x.o)),(hI (bh.o.grown T.o o.o)),ct,bi⟩
         | false=>
          rw[hb68]at a4;obtain⟨ap,cu⟩:=eX (s++[(⟨⟨n2.toArray⟩,a,e2⟩:EqN)]);have e7:=hI (show l=(wantP ts false [59] k9).bind fun _ k6=> .ok ⟨g1,d,n,ap.map EqN.pl⟩ k6 by rw[eo.o,hb68,if_neg (by decide),cu,List.map_append];rfl);rw[←cu]at a3;clear cu;clear hb68;go_wp2_with fail;refine a4.o.mono ?_;rintro e wa68 ⟨rfl,T,a5⟩;simp only[Bool.false_eq_true,if_false]at a5;have e8:=hI (grown_tr cq.o T.o);have ct:=hI (ina_mv cs.o (fun b hb e=>by injection e with e;omega) T.o);have bi:=hI (a3.o.moved pzQ (.inr ⟨g,rfl,by omega⟩) T.o);have im:=bi;have c:=hI (pWant a5.o (by omega) [59] false (by decide))
          cases hn70:wantP ts false [59] k9 with
          | out=>
           rw[hn70]at c;clear hn70;go_wp2_with fail;refine c.o.mono ?_;rintro e w9 j
           exact j.elim
          | bad ln co er=>
           rw[hn70]at c;have p:=hI (show l= .bad ln co er by rw[e7.o,hn70]<;>rfl);clear hn70;go_wp2_with fail;refine c.o.mono ?_;rintro e w9 ⟨rfl,q⟩;go_wp2_with fail;rw[p.o]
           exact⟨rfl,prp_bad (hI (grown_tr e8.o q.o))⟩
          | ok u6 k6=>
           rw[hn70]at c;have io:=(want_fw (ts:=ts) false [59] k9) _ _ hn70;have gd:=hI (show l= .ok ⟨g1,d,n,(ap).map EqN.pl⟩ k6 by rw[e7.o,hn70]<;>rfl);clear hn70;go_wp2_with fail;refine c.o.mono ?_;rintro e wq70 ⟨j,a6,ge⟩
           cases j
           have cv:=hI ((cr.o.grown T.o x.o).grown a6.o x.o);have gf:=hI (ina_mv ct.o (fun b hb e=>by injection e with e;omega) a6.o);have gg:=hI (bi.o.moved pzQ (.inr ⟨g,rfl,by omega⟩) a6.o);obtain⟨A5,c5,gh,e9⟩:=gg.o.lies pzQ;have gi:=hI e9;clear e9;injection gh with h5 hl h6;subst h5 hl h6
           have cw:(⟨n.toArray⟩:ByteArray).size≤maxLen:=by
            show n.toArray.size≤_
            rw[List.size_toArray];unfold maxLen
            omega
           obtain⟨gj,gm,gn,go,gp,gq,gr,gs,gt,gu,gv,gw,gz,g0,g2,g3,g4,g5⟩:=cv.o.all9;obtain⟨y,z,B,C,D,E,F,G,H,I,J,L,M,N,O,P,Q,R⟩:=((bh.o.grown T.o o.o).grown a6.o o.o).all9;go_wp2;rw[pst9 cv.o];obtain⟨z0,_,z1,_,z2,_,z3,_,z4,_,z5,_,z6,_,z7,_,z8,_⟩:=(cv.o.put #[.int .i64 v.h.kind,.int .i64 v.h.n,.int .i64 v.h.d,.string v.h.name,.int .i64 v.h.k,.slice v.A v.len v.cap,.int .i64 d,.string ⟨n.toArray⟩,.slice A9 ap.length V]).all9;refine bodyPost_ret (v:= .agg #[.int .i64 v.h.kind,.int .i64 v.h.n,.int .i64 v.h.d,.string v.h.name,.int .i64 v.h.k,.slice v.A v.len v.cap,.int .i64 d,.string ⟨n.toArray⟩,.slice A9 ap.length V]) (by simp[results,Tryz.results97,go_sem,z0,z1,z2,z3,z4,z5,z6,z7,z8]) rfl ?_;rw[gd.o]
           exact⟨⟨⟨v,g1,d,⟨n.toArray⟩,A9,ap.length,V,ap⟩,rfl,rfl,hI ⟨(InA.far gf.o (r:=w.heap.size) (by omega) _ _).weaken (fun b hb=>by omega),(by show -9223372036854775808≤d;omega),(by show d≤9223372036854775807;omega),cw,((gi.o.mv pzQ (r:=some w.heap.size) (fun b hb e=>by injection e with e;omega) (putB_grown _ _ _ _)).weaken pzQ (fun b hb=>by omega))⟩⟩,hI (grown_new (grown_tr e8.o a6.o) (Nat.le_refl _) _ _),hI (ge.o.far db ab _ _)⟩
    | false=>
     rw[hb44]at ax;have be:=hI (show l=(wantP ts false [59] k4).bind fun _ k6=> .ok ⟨g1,d,n,([]:List EqN).map EqN.pl⟩ k6 by rw[d5.o];unfold withP;rw[hb44];rfl);clear hb44;go_wp2_with fail;refine ax.o.mono ?_;rintro e wa44 ⟨rfl,W,ay⟩;simp only[Bool.false_eq_true,if_false]at ay;have fa:=hI (grown_tr bz.o W.o);have b2:=hI (ina_mv b1.o (fun b hb e=>by injection e with e;omega) W.o);have c:=hI (pWant ay.o (by omega) [59] false (by decide))
     cases hn46:wantP ts false [59] k4 with
     | out=>
      rw[hn46]at c;clear hn46;go_wp2_with fail;refine c.o.mono ?_;rintro e w9 j
      exact j.elim
     | bad ln co er=>
      rw[hn46]at c;have p:=hI (show l= .bad ln co er by rw[be.o,hn46]<;>rfl);clear hn46;go_wp2_with fail;refine c.o.mono ?_;rintro e w9 ⟨rfl,q⟩;go_wp2_with fail;rw[p.o]
      exact⟨rfl,prp_bad (hI (grown_tr fa.o q.o))⟩
     | ok u6 k6=>
      rw[hn46]at c;have ir:=(want_fw (ts:=ts) false [59] k4) _ _ hn46;have g6:=hI (show l= .ok ⟨g1,d,n,([]).map EqN.pl⟩ k6 by rw[be.o,hn46]<;>rfl);clear hn46;go_wp2_with fail;refine c.o.mono ?_;rintro e wq46 ⟨j,bj,g7⟩
      cases j
      have c7:=hI ((b0.o.grown W.o x.o).grown bj.o x.o);have g8:=hI (ina_mv b2.o (fun b hb e=>by injection e with e;omega) bj.o)
      have cw:(⟨n.toArray⟩:ByteArray).size≤maxLen:=by
       show n.toArray.size≤_
       rw[List.size_toArray];unfold maxLen
       omega
      obtain⟨gj,gm,gn,go,gp,gq,gr,gs,gt,gu,gv,gw,gz,g0,g2,g3,g4,g5⟩:=c7.o.all9;obtain⟨y,z,B,C,D,E,F,G,H,I,J,L,M,N,O,P,Q,R⟩:=((bd.o.grown W.o o.o).grown bj.o o.o).all9;go_wp2;rw[pst9 c7.o];obtain⟨z0,_,z1,_,z2,_,z3,_,z4,_,z5,_,z6,_,z7,_,z8,_⟩:=(c7.o.put #[.int .i64 v.h.kind,.int .i64 v.h.n,.int .i64 v.h.d,.string v.h.name,.int .i64 v.h.k,.slice v.A v.len v.cap,.int .i64 d,.string ⟨n.toArray⟩,.slice none 0 0]).all9;refine bodyPost_ret (v:= .agg #[.int .i64 v.h.kind,.int .i64 v.h.n,.int .i64 v.h.d,.string v.h.name,.int .i64 v.h.k,.slice v.A v.len v.cap,.int .i64 d,.string ⟨n.toArray⟩,.slice none 0 0]) (by simp[results,Tryz.results97,go_sem,z0,z1,z2,z3,z4,z5,z6,z7,z8]) rfl ?_;rw[g6.o];exact⟨⟨⟨v,g1,d,⟨n.toArray⟩,none,0,0,[]⟩,rfl,rfl,hI ⟨(InA.far g8.o (r:=w.heap.size) (by omega) _ _).weaken (fun b hb=>by omega),(by show -9223372036854775808≤d;omega),(by show d≤9223372036854775807;omega),cw,lil_nil _ _⟩⟩,hI (grown_new (grown_tr fa.o bj.o) (Nat.le_refl _) _ _),hI (g7.o.far db ab _ _)⟩
