import Derived.Test.YtgcjmhjjpbcfmaaGreatDoorQO
import Derived.Test.YtgcjmhjjpbcfmaaGreatDoorLiX
set_option linter.unusedVariables false
open List renaming setIfInBounds_toArray → Lj,set_cons_zero → Lk,set_cons_succ → Lq
set_option maxHeartbeats 8000000
set_option maxRecDepth 100000
namespace Go.Proofs.YtgcjmhjjpbcfmaaGreatDoor
open Go.RowKit Go.Fl Go.Fl.Nm Go.Fl.Dy Go.Fl.Fm Go.Fl.Lb
def zeI:Iv:=⟨D0,D0,false⟩
def lkI(l:List (ByteArray×IvN))(s:ByteArray):Iv:=match l.find? (fun p=>p.1==s)with
  | some p=>p.2.x
  | none=>whI
def evF(ap:Int→Int→Iv→Iv→Int→Iv)(l:List (ByteArray×IvN))(p:Int):Nat→TE→Iv
  | 0,_=>whI
  | f+1,T=>if T.h.kind=1 then enV T.h.n T.h.d p else if T.h.kind=2 then lkI l T.h.name
    else ap T.h.kind T.h.k (if 0<T.l.length then evF ap l p f (T.l.getD 0 default)else zeI) (if 1<T.l.length then evF ap l p f (T.l.getD 1 default)else zeI) p
def EvOK(ap:Int→Int→Iv→Iv→Int→Iv)(l:List (ByteArray×IvN)):Nat→TE→Prop
  | 0,_=>False
  | f+1,T=>T.h.kind=1∨(T.h.kind=2∧∃(i:Nat) (q:ByteArray×IvN),l[i]? =some q∧q.1=T.h.name∧q.2.x.val=true)∨(T.h.kind≠1∧T.h.kind≠2∧ApplyAt ap T.h.kind∧T.l.length≤2∧∀i,i<T.l.length→EvOK ap l f (T.l.getD i default))
def VaQ(r:Iv)(w:World)(e:Ending)(w':World):Prop:=∃q:IvN,e= .returned (.tuple #[.agg #[.b q.x.lo.neg,.l q.A q.n q.c,.i q.x.lo.e,.b q.x.hi.neg,.l q.B q.m q.d,.i q.x.hi.e,.b q.x.all],.b true])∧Hid (q.x=r)∧Hid (InI w' q)∧Hid (Below w.heap.size w w')
def ValAt(ap:Int→Int→Iv→Iv→Int→Iv)(p:Int)(f:Nat):Prop:=∀(T:TE) (v:Nd) (w:World) (G:Nat) (l:List (ByteArray×IvN)),InE w T v→EnvM w G l→RB w→EvOK ap l f T→Calls Tryz.prog 76 #[v.val,.map (some G),.i p] w (VaQ (evF ap l p f T) w)
theorem lk_at{l:List (ByteArray×IvN)}{i:Nat}{q:ByteArray×IvN}(hd:(l.map Prod.fst).Nodup)(hq:l[i]? =some q):lkI l q.1=q.2.x:=by
 unfold lkI
 have:l.find? (fun p=>p.1==q.1)=some q:=by
  induction l generalizing i with
  | nil=>cases hq
  | cons y l ih=>
   rw[List.find?_cons]
   cases i with
   | zero=>
    have e:y=q:=Option.some.inj hq;subst e
    rw[show(y.1==y.1)=true from(MapKept.bytes_beq _ _).2 rfl]
   | succ i=>
    have hq':l[i]? =some q:=hq
    have hne:(y.1==q.1)=false:=by
     cases hb:(y.1==q.1)with
     | false=>rfl
     | true=>
     have e:=(MapKept.bytes_beq _ _).1 hb;exact absurd (show y.1∈l.map Prod.fst by rw[e];exact List.mem_map_of_mem (List.mem_of_getElem? hq')) (List.nodup_cons.1 hd).1
    rw[hne];exact ih (List.nodup_cons.1 hd).2 hq'
 rw[this]
theorem val_num(ap:Int→Int→Iv→Iv→Int→Iv)(p:Int)(f:Nat)(T:TE)(h:Hd)(A:Option Addr)(len cap:Nat)(w:World)(G:Nat)(l:List (ByteArray×IvN))(hin:InE w T ⟨h,A,len,cap⟩)(hm:EnvM w G l)(hT:RB w)(hk:h.kind=1):
 Calls Tryz.prog 76 #[.agg #[.i h.kind,.i h.n,.i h.d,.string h.name,.i h.k,.l A len cap],.map (some G),.i p] w (VaQ (evF ap l p (f+1) T) w):=by
 have F:=hI hT;have H:=hI hin.hd;have b:=hI hin.ok;obtain⟨R,i⟩:=eX (evF ap l p (f+1) T);rw[←i];have r:T.h.kind=1:=(by rw[hin.hd];exact hk);have I:=hI (show enV h.n h.d p=R by rw[i];unfold evF;rw[if_pos r,H.o]);have Q:(h.kind==1)=true:=(by simp[hk]);clear hin hm hT i hk r;have J:=hI (Below.refl w.heap.size w)
 go_in
 go_upto_region 1 with(fail);generalize a:World.alloc _ _=ww1;obtain⟨s,u,L⟩:=gn2 a;clear a;have y:=J.o.t s;have M:=u.o.cell;have N:=u.o.frozen;go_wp2_with fail;refine(ienclose_any h.n h.d p ww1 (F.o.belowW s.o) b.o.n1 b.o.n2 b.o.d1 b.o.d2).mono ?_;rw[I.o];rintro e ww2 ⟨q,rfl,O,P,z⟩;have g:=L.o.b9 z;clear M N;have j:=g.o.cell;have C:=g.o.frozen;go_wp2;rw[store7_put g.o];obtain⟨D,E,o⟩:=putI (v:=q) P.o g.o noU7 (y.o.trans (z.o.mono y.o.size)) (by omega);obtain⟨w9,a⟩:=eX (putB ww2 (w.heap.size+1) 77 #[.b q.x.lo.neg,.l q.A q.n q.c,.i q.x.lo.e,.b q.x.hi.neg,.l q.B q.m q.d,.i q.x.hi.e,.b q.x.all]);rw[show(q:IvN).cells=#[.b q.x.lo.neg,.l q.A q.n q.c,.i q.x.lo.e,.b q.x.hi.neg,.l q.B q.m q.d,.i q.x.hi.e,.b q.x.all]from rfl,←a]at D E o;rw[←a];clear a;clear j C;have j:=o.o.cell;have C:=o.o.frozen;refine bodyPost_ret (v:= .tuple #[.agg #[.b q.x.lo.neg,.l q.A q.n q.c,.i q.x.lo.e,.b q.x.hi.neg,.l q.B q.m q.d,.i q.x.hi.e,.b q.x.all],.b true]) (by simp[results,Tryz.results76,go_sem,j]) rfl ?_;exact⟨q,rfl,O,D,E⟩
theorem val_var(ap:Int→Int→Iv→Iv→Int→Iv)(p:Int)(f:Nat)(T:TE)(h:Hd)(A:Option Addr)(len cap:Nat)(w:World)(G:Nat)(l:List (ByteArray×IvN))(hin:InE w T ⟨h,A,len,cap⟩)(hm:EnvM w G l)(hT:RB w)(hk:h.kind=2)(i:Nat)(q:ByteArray×IvN)(hq:l[i]? =some q)(hn:q.1=h.name)(hv:q.2.x.val=true):
 Calls Tryz.prog 76 #[.agg #[.i h.kind,.i h.n,.i h.d,.string h.name,.i h.k,.l A len cap],.map (some G),.i p] w (VaQ (evF ap l p (f+1) T) w):=by
 have U:=hI hm;have V:=hI hin.hd;have ac:=hI hin.ok;obtain⟨R,o⟩:=eX (evF ap l p (f+1) T);rw[←o];have D:T.h.kind=2:=(by rw[hin.hd];exact hk);have E:=hI (show q.2.x=R by rw[o];unfold evF;rw[if_neg (by omega),if_pos D,V.o,←hn,lk_at hm.d hq]);have d1:(h.kind==1)=false:=(by rw[beq_eq_false_iff_ne];omega);have d2:(h.kind==2)=true:=(by simp[hk]);obtain⟨s,x⟩:=q;simp only at hn hv E;subst hn;have F:=hI hq;have W:=hI hv;clear hin hm hT o hk D hq hv;have X:=hI (Below.refl w.heap.size w)
 go_in
 go_upto_region 1 with(fail);generalize a:World.alloc _ _=ww1;obtain⟨H,I,Y⟩:=gn2 a;clear a;have Z:=X.o.t H;have J:=U.o.b9 H;have ce:=I.o.cell;have fe:=I.o.frozen;have L:=J.o.look F.o;simp only at L;have M:=hI (J.o.v _ (List.mem_of_getElem? F.o));simp only at M;go_upto_region 6 with(fail);generalize a:World.alloc _ _=ww2;obtain⟨r,g⟩:=gn1 a;clear a;have N:=Z.o.t r;have O:=M.o.b9 r;clear ce fe;clear L;have u:=g.o.cell;have y:=g.o.frozen;go_wp2_with fail;refine(ivalid_in x ww2 O.o).mono ?_;rw[W.o];rintro e ww3 ⟨rfl,b⟩;have j:=hI ((Y.o.belowW r.o).belowW b.o);clear u y;have u:=(g.o.belowW b.o).cell;have y:=(g.o.belowW b.o).frozen;have z:=j.o.cell;have P:=j.o.frozen;go_wp2;rw[store7_put j.o];obtain⟨Q,S,C⟩:=putI (v:=x) (O.o.belowW b.o) j.o noU7 (N.o.trans (b.o.mono N.o.size)) (by omega);obtain⟨w9,a⟩:=eX (putB ww3 (w.heap.size+1) 77 #[.b x.x.lo.neg,.l x.A x.n x.c,.i x.x.lo.e,.b x.x.hi.neg,.l x.B x.m x.d,.i x.x.hi.e,.b x.x.all]);rw[show(x:IvN).cells=#[.b x.x.lo.neg,.l x.A x.n x.c,.i x.x.lo.e,.b x.x.hi.neg,.l x.B x.m x.d,.i x.x.hi.e,.b x.x.all]from rfl,←a]at Q S C;rw[←a];clear a;clear u y z P;have z:=C.o.cell;have P:=C.o.frozen;refine bodyPost_ret (v:= .tuple #[.agg #[.b x.x.lo.neg,.l x.A x.n x.c,.i x.x.lo.e,.b x.x.hi.neg,.l x.B x.m x.d,.i x.x.hi.e,.b x.x.all],.b true]) (by simp[results,Tryz.results76,go_sem,z]) rfl ?_;exact⟨x,rfl,E,Q,S⟩
def argI(ap:Int→Int→Iv→Iv→Int→Iv)(l:List (ByteArray×IvN))(p:Int)(f:Nat)(T:TE)(i:Nat):Iv:=if i<T.l.length then evF ap l p f (T.l.getD i default)else zeI
def argJ(ap:Int→Int→Iv→Iv→Int→Iv)(l:List (ByteArray×IvN))(p:Int)(f:Nat)(T:TE)(i j:Nat):Iv:=if i<j then evF ap l p f (T.l.getD i default)else zeI
def VoR(ap:Int→Int→Iv→Iv→Int→Iv)(l:List (ByteArray×IvN))(p:Int)(f:Nat)(T:TE)(len gl ge gr:Nat)(CE:Array Value)(w:World)(k:Nat)(iv:Value)(wr:World):Prop:=
  ∃(j:Nat) (a b:IvN),iv= .i j∧j≤len∧k=len-j∧Hid (Blk wr gl 187 #[.b a.x.lo.neg,.l a.A a.n a.c,.i a.x.lo.e,.b a.x.hi.neg,.l a.B a.m a.d,.i a.x.hi.e,.b a.x.all,.b b.x.lo.neg,.l b.A b.n b.c,.i b.x.lo.e,.b b.x.hi.neg,.l b.B b.m b.d,.i b.x.hi.e,.b b.x.all])∧Hid (InI wr a)∧Hid (InI wr b)∧Hid (a.x=argJ ap l p f T 0 j)∧Hid (b.x=argJ ap l p f T 1 j)∧Hid (Blk wr ge 57 CE)∧Hid (Blk wr gr 77 #[.b false,.sn,.i 0,.b false,.sn,.i 0,.b false])∧Hid (Below w.heap.size w wr)
theorem store7_lo{w:World}{g:Nat}{t:TypeId}{x0 x1 x2 x3 x4 x5 x6 x7 x8 x9 x10 x11 x12 x13:Value}(hB:Blk w g t #[x0,x1,x2,x3,x4,x5,x6,x7,x8,x9,x10,x11,x12,x13])(a' b' c' d' e' f' h':Value):
 ((((((w.setCell ⟨g,0,none⟩ a').setCell ⟨g,1,none⟩ b').setCell ⟨g,2,none⟩ c').setCell ⟨g,3,none⟩ d').setCell ⟨g,4,none⟩ e').setCell ⟨g,5,none⟩ f').setCell ⟨g,6,none⟩ h'=putB w g t #[a',b',c',d',e',f',h',x7,x8,x9,x10,x11,x12,x13]:=by
 rw[hB.setCell_eq 0 a',(hB.put _).setCell_eq 1 b',putB_putB,(hB.put _).setCell_eq 2 c',putB_putB,(hB.put _).setCell_eq 3 d',putB_putB,(hB.put _).setCell_eq 4 e',putB_putB,(hB.put _).setCell_eq 5 f',putB_putB,(hB.put _).setCell_eq 6 h',putB_putB];simp only[Lj,Lk,Lq]
theorem store7_hi{w:World}{g:Nat}{t:TypeId}{x0 x1 x2 x3 x4 x5 x6 x7 x8 x9 x10 x11 x12 x13:Value}(hB:Blk w g t #[x0,x1,x2,x3,x4,x5,x6,x7,x8,x9,x10,x11,x12,x13])(a' b' c' d' e' f' h':Value):
 ((((((w.setCell ⟨g,7,none⟩ a').setCell ⟨g,8,none⟩ b').setCell ⟨g,9,none⟩ c').setCell ⟨g,10,none⟩ d').setCell ⟨g,11,none⟩ e').setCell ⟨g,12,none⟩ f').setCell ⟨g,13,none⟩ h'=putB w g t #[x0,x1,x2,x3,x4,x5,x6,a',b',c',d',e',f',h']:=by
 rw[hB.setCell_eq 7 a',(hB.put _).setCell_eq 8 b',putB_putB,(hB.put _).setCell_eq 9 c',putB_putB,(hB.put _).setCell_eq 10 d',putB_putB,(hB.put _).setCell_eq 11 e',putB_putB,(hB.put _).setCell_eq 12 f',putB_putB,(hB.put _).setCell_eq 13 h',putB_putB];simp only[Lj,Lk,Lq]
theorem noU14{a b s a' b' s':Bool}{A B A' B':Option Addr}{n c m d n' c' m' d':Nat}{e f e' f':Int}:NoU #[.b a,.l A n c,.i e,.b b,.l B m d,.i f,.b s,.b a',.l A' n' c',.i e',.b b',.l B' m' d',.i f',.b s']:=by
 intro i x h
 match i with
 | 0=>simp at h
 | 1=>simp at h
 | 2=>simp at h
 | 3=>simp at h
 | 4=>simp at h
 | 5=>simp at h
 | 6=>simp at h
 | 7=>simp at h
 | 8=>simp at h
 | 9=>simp at h
 | 10=>simp at h
 | 11=>simp at h
 | 12=>simp at h
 | 13=>simp at h
 | i+14=>simp at h
theorem val_op(ap:Int→Int→Iv→Iv→Int→Iv)(p:Int)(f:Nat)(T:TE)(h:Hd)(A:Option Addr)(len cap:Nat)(w:World)(G:Nat)(l:List (ByteArray×IvN))(hin:InE w T ⟨h,A,len,cap⟩)(hm:EnvM w G l)(hT:RB w)(h1:h.kind≠1)(h2:h.kind≠2)(hap:ApplyAt ap h.kind)(hl2:len≤2)(ih:ValAt ap p f)(hch:∀i,i<len→EvOK ap l f (T.l.getD i default)):
 Calls Tryz.prog 76 #[.agg #[.i h.kind,.i h.n,.i h.d,.string h.name,.i h.k,.l A len cap],.map (some G),.i p] w (VaQ (evF ap l p (f+1) T) w):=by
 have a0:=hI hin;have HM:=hI hm;have HT:=hI hT;have N:=hI hin.hd;have bp:=hI hin.ok;obtain⟨R,O⟩:=eX (evF ap l p (f+1) T);rw[←O];have P:=hI hin.length;simp only at P;have HX:=hI (show ap h.kind h.k (argI ap l p f T 0) (argI ap l p f T 1) p=R by rw[O];unfold evF;rw[if_neg (by rw[N.o];exact h1),if_neg (by rw[N.o];exact h2),N.o];rfl);have d1:(h.kind==1)=false:=(by rw[beq_eq_false_iff_ne];exact h1);have d2:(h.kind==2)=false:=(by rw[beq_eq_false_iff_ne];exact h2);have a4:=hI hap;have IH:=hI ih;have a6:=hI hch;clear hin hm hT O h1 h2 hap ih hch;have a7:=hI (Below.refl w.heap.size w)
 go_in
 go_upto_region 1 with(fail);generalize g:World.alloc _ _=ww1;obtain⟨Q,J,Z⟩:=gn2 g;clear g;have aa:=a7.o.t Q;have C:=J.o.cell;have D:=J.o.frozen;go_upto_region 10 with(fail);generalize g:World.alloc _ _=ww2;obtain⟨S,a8⟩:=gn1 g;clear g;have U:=J.o.b9 S;clear C D;have C:=U.o.cell;have D:=U.o.frozen;go_wp2_with fail;have ab:w.heap.size≤ww1.heap.size:=(by have:=aa.o.size;omega);have ac:w.heap.size≠ww1.heap.size:=(by have:=J.o.lt;omega);have ad:w.heap.size+1≠ww1.heap.size:=(by have:=Z.o.lt;omega)
 go_loopg [41] len (VoR ap l p f T len (ww1.heap.size) (w.heap.size) (w.heap.size+1) #[.i h.kind,.i h.n,.i h.d,.string h.name,.i h.k,.l A len cap] w)
 case atStart=>exact⟨0,ze9,ze9,rfl,by omega,by omega,a8,hI (ze9_in _),hI (ze9_in _),hI rfl,hI rfl,U,(Z.o.b9 S),(aa.o.t S)⟩
 obtain⟨j,a,b,rfl,hj,rfl,HA,af,ag,ah,ai,I,aj,E⟩:=hrel;have ak:=HT.o.b9 E
 by_cases hlt:j<len
 case neg=>
  have a9:j=len:=(by omega);subst a9;have n1:decide ((j:Int)<j)=false:=dF;have bc:=hI (show a.x=argI ap l p f T 0 by rw[ah.o];unfold argI argJ;rw[P.o]);have Q:=hI (show b.x=argI ap l p f T 1 by rw[ai.o];unfold argI argJ;rw[P.o]);have C:=I.o.cell;have D:=I.o.frozen;have V:=HA.o.cell;go_wp2_with fail;refine(a4.o h.k a b p wr af.o ag.o ak.o).mono ?_;rw[bc.o,Q.o,HX.o];rintro e ww3 ⟨q,rfl,L,W,al⟩;have M:=aj.o.b9 al;clear C D;clear V;have X:=M.o.cell;have fr:=M.o.frozen;go_wp2;rw[store7_put M.o];obtain⟨an,ao,Y⟩:=putI (v:=q) W.o M.o noU7 (E.o.trans (al.o.mono E.o.size)) (by omega);obtain⟨w9,g⟩:=eX (putB ww3 (w.heap.size+1) 77 #[.b q.x.lo.neg,.l q.A q.n q.c,.i q.x.lo.e,.b q.x.hi.neg,.l q.B q.m q.d,.i q.x.hi.e,.b q.x.all]);rw[show(q:IvN).cells=#[.b q.x.lo.neg,.l q.A q.n q.c,.i q.x.lo.e,.b q.x.hi.neg,.l q.B q.m q.d,.i q.x.hi.e,.b q.x.all]from rfl,←g]at an ao Y;rw[←g];clear g;clear X fr;have X:=Y.o.cell;have fr:=Y.o.frozen;refine bodyPost_ret (v:= .tuple #[.agg #[.b q.x.lo.neg,.l q.A q.n q.c,.i q.x.lo.e,.b q.x.hi.neg,.l q.B q.m q.d,.i q.x.hi.e,.b q.x.all],.b true]) (by simp[results,Tryz.results76,go_sem,X]) rfl ?_;exact⟨q,rfl,L,an,ao⟩
 obtain⟨F,o,x,hA,bt,hx,y⟩:=(a0.o.belowW E.o).at_ j hlt;simp only at hA;subst hA;have bd:=hI hx;have q0:wr.cell? ⟨F,o+j*6,none⟩=some (.i x.h.kind):=y 0 _ rfl (by omega);have q1:wr.cell? ⟨F,o+j*6+1,none⟩=some (.i x.h.n):=y 1 _ rfl (by omega);have q2:wr.cell? ⟨F,o+j*6+2,none⟩=some (.i x.h.d):=y 2 _ rfl (by omega);have q3:wr.cell? ⟨F,o+j*6+3,none⟩=some (.string x.h.name):=y 3 _ rfl (by omega);have q4:wr.cell? ⟨F,o+j*6+4,none⟩=some (.i x.h.k):=y 4 _ rfl (by omega);have q5:wr.cell? ⟨F,o+j*6+5,none⟩=some (.l x.A x.len x.cap):=y 5 _ rfl (by omega);have n1:decide ((j:Int)<len)=true:=dT;have bu:decide (j<len)=true:=decide_eq_true hlt;have bv:0≤(j:Int)∧(j:Int)<len:=(by omega);clear hx y;have C:=I.o.cell;have D:=I.o.frozen;go_upto_region 13 with(fail);generalize g:World.alloc _ _=ww4;obtain⟨u,au⟩:=gn1 g;clear g;have bk:=E.o.t u;clear C D;clear q0 q1 q2 q3 q4 q5;have cy:=au.o.cell;have fy:=au.o.frozen;go_wp2_with fail;refine((show Calls Tryz.prog 76 #[.agg #[.i x.h.kind,.i x.h.n,.i x.h.d,.string x.h.name,.i x.h.k,.l x.A x.len x.cap],.map (some G),.i p] ww4 _ from IH.o _ x ww4 G l (bd.o.belowW u.o) ((HM.o.belowW E.o).belowW u.o) (ak.o.belowW u.o) (a6.o j hlt))).mono ?_;rintro e ww5 ⟨q,rfl,L,W,H⟩;have bn:=bk.o.t H;clear cy fy;go_upto_region 14 with(fail);generalize g:World.alloc _ _=ww6;obtain⟨z,av⟩:=gn1 g;clear g;have aw:=bn.o.t z;have r:=hI (((HA.o.belowW u.o).belowW H.o).belowW z.o);have ax:=hI (((I.o.belowW u.o).belowW H.o).belowW z.o);have ay:=hI (((aj.o.belowW u.o).belowW H.o).belowW z.o);have az:=W.o.b9 z;have cz:=av.o.cell;have fz:=av.o.frozen
 obtain hh | hh:j=0∨j=1:=by omega
 ·
  subst hh;have V:=r.o.cell;have fa:=r.o.frozen
  go_wp2_with fail;rw[store7_lo r.o];have s:=putB_grown ww6 (ww1.heap.size) 187 #[.b q.x.lo.neg,.l q.A q.n q.c,.i q.x.lo.e,.b q.x.hi.neg,.l q.B q.m q.d,.i q.x.hi.e,.b q.x.all,.b b.x.lo.neg,.l b.A b.n b.c,.i b.x.lo.e,.b b.x.hi.neg,.l b.B b.m b.d,.i b.x.hi.e,.b b.x.all]
  go_roundg (len-(0+1))
  case measure=>omega
  case rel=>exact⟨1,q,b,by go_num,by omega,rfl,hI (r.o.put _),hI (az.o.far r.o noU14 s),hI ((((ag.o.belowW u.o).belowW H.o).belowW z.o).far r.o noU14 s),L,hI (by rw[ai.o];rfl),hI (blk_grown ax.o s ac),hI (blk_grown ay.o s ad),hI (below_grow9 aw.o s ab)⟩
 subst hh;have V:=r.o.cell;have fa:=r.o.frozen;go_wp2_with fail;rw[store7_hi r.o];have s:=putB_grown ww6 (ww1.heap.size) 187 #[.b a.x.lo.neg,.l a.A a.n a.c,.i a.x.lo.e,.b a.x.hi.neg,.l a.B a.m a.d,.i a.x.hi.e,.b a.x.all,.b q.x.lo.neg,.l q.A q.n q.c,.i q.x.lo.e,.b q.x.hi.neg,.l q.B q.m q.d,.i q.x.hi.e,.b q.x.all]
 go_roundg (len-(1+1))
 case measure=>omega
 case rel=>exact⟨2,a,q,by go_num,by omega,rfl,hI (r.o.put _),hI ((((af.o.belowW u.o).belowW H.o).belowW z.o).far r.o noU14 s),hI (az.o.far r.o noU14 s),hI (by rw[ah.o];rfl),L,hI (blk_grown ax.o s ac),hI (blk_grown ay.o s ad),hI (below_grow9 aw.o s ab)⟩
theorem val_at(ap:Int→Int→Iv→Iv→Int→Iv)(p:Int):∀f,ValAt ap p f:=by
 intro f
 induction f with
 | zero=>intro T v w G l h1 h2 h3 h4;exact absurd h4 (by unfold EvOK;exact id)
 | succ f ih=>
  intro T v w G l hin hm hT hk;obtain⟨h,A,len,cap⟩:=v;have hh:=hin.hd;have hl:=hin.length;unfold EvOK at hk;rw[hh,hl]at hk
  rcases hk with h1 | ⟨h1,i,q,h2,h3,h4⟩ | ⟨h1,h2,h3,h4,h5⟩
  ·
   exact val_num ap p f T h A len cap w G l hin hm hT h1
  ·
   exact val_var ap p f T h A len cap w G l hin hm hT h1 i q h2 h3 h4
  exact val_op ap p f T h A len cap w G l hin hm hT h1 h2 h3 h4 ih h5
end Go.Proofs.YtgcjmhjjpbcfmaaGreatDoor
namespace Go.Fl.Pa
open Go.Fl.Lx Go.Fl.Fm Go.Fl.Rt
def zt(t:Tok):Tok:=⟨t.kind,t.text,0,0⟩
def zs(ts:List Tok):List Tok:=ts.map zt
section
variable {ts:List Tok}
end
section
variable {nm:List UInt8→Bool} {ts:List Tok}
end
