import Derived.Test.YtgcjmhjjpbcfmaaGreatDoorRc
import Derived.Test.YtgcjmhjjpbcfmaaGreatDoorQH
set_option maxHeartbeats 2000000
namespace Go.Proofs.YtgcjmhjjpbcfmaaGreatDoor
open Go.RowKit Go.Fl Go.Fl.Nm Go.Fl.Dy Go.Fl.Lb
def zeroB(ng:Bool)(n:Nat)(ex:Int):Bool:= !ng&&decide (n=0)&&decide (ex=0)
theorem zero_any(ng:Bool)(A:Option Addr)(n c:Nat)(ex:Int)(w:World)(hn:n≤maxLen):
 Calls Tryz.prog 118 #[.agg #[.b ng,.l A n c,.i ex]] w (Ret (.b (zeroB ng n ex)) w):=by
 unfold maxLen at hn
 cases ng with
 | true=>
  go_in
  go_wp2_with fail;generalize hw:World.alloc _ _=w1;obtain⟨a,b⟩:=gn1 hw;clear hw;have d:=b.o.cell;go_wp2;go_ret
  exact⟨ret_bool (rfl),a⟩
 | false=>
  by_cases h1:n=0
  case neg=>
   have i:((n:Int)==0)=false:=(by rw[beq_eq_false_iff_ne];omega);have g:=hI (show zeroB false n ex=false by unfold zeroB;rw[decide_eq_false h1];rfl);clear h1
   go_in
   go_wp2_with fail;generalize hw:World.alloc _ _=w1;obtain⟨a,b⟩:=gn1 hw;clear hw;have d:=b.o.cell;go_wp2;go_ret;exact⟨ret_bool (by rw[g.o]),a⟩
  subst h1
  by_cases h2:ex=0
  case neg=>
   have j:(ex==0)=false:=(by rw[beq_eq_false_iff_ne];exact h2);have g:=hI (show zeroB false 0 ex=false by unfold zeroB;rw[decide_eq_false h2];rfl);clear h2
   go_in
   go_wp2_with fail;generalize hw:World.alloc _ _=w1;obtain⟨a,b⟩:=gn1 hw;clear hw;have d:=b.o.cell;go_wp2;go_ret;exact⟨ret_bool (by rw[g.o]),a⟩
  subst h2
  go_in
  go_wp2_with fail;generalize hw:World.alloc _ _=w1;obtain⟨a,b⟩:=gn1 hw;clear hw;have d:=b.o.cell;go_wp2;go_ret;exact⟨ret_bool (by rw[(show zeroB false 0 0=true from rfl)]),a⟩
def vldIB(ng:Bool)(l:List Nat)(ex:Int)(ng':Bool)(l':List Nat)(ex':Int)(all:Bool):Bool:=
  if all then zeroB ng l.length ex&&zeroB ng' l'.length ex' else vldL ng l ex&&vldL ng' l' ex'&&decide (cmpD ⟨ng,val l,ex⟩ ⟨ng',val l',ex'⟩≤0)
theorem ivalid_any(ng:Bool)(A:Option Addr)(n c:Nat)(ex:Int)(l:List Nat)(ng':Bool)(B:Option Addr)(m c':Nat)(ex':Int)(l':List Nat)(all:Bool)(w:World)(h:Sl w A n c l)(h':Sl w B m c' l'):
 Calls Tryz.prog 77 #[.agg #[.b ng,.l A n c,.i ex,.b ng',.l B m c',.i ex',.b all]] w (Ret (.b (vldIB ng l ex ng' l' ex' all)) w):=by
 have H:=hI h;have M:=hI h';have N:=h.max;have O:=h'.max;have P:=hI h.len;have Q:=hI h'.len;clear h h'
 cases all with
 | true=>
  obtain⟨o,a⟩:∃z,zeroB ng n ex=z:=⟨_,rfl⟩
  obtain⟨s,b⟩:∃z,zeroB ng' m ex'=z:=⟨_,rfl⟩
  have u:=hI a;have v:=hI b;have i:=hI (show vldIB ng l ex ng' l' ex' true=(o&&s)by unfold vldIB;rw[if_pos rfl,P.o,Q.o,a,b]);clear a b
  go_in
  go_wp2_with fail;generalize j:World.alloc _ _=x;obtain⟨p,q⟩:=gn1 j;clear j;have d:=q.o.cell;go_wp2_with fail;refine(zero_any ng A n c ex x N).mono ?_;rw[u.o];rintro e w2 ⟨rfl,g⟩;have y:=q.o.b9 g;have r:=p.o.t g;clear d;have d:=y.o.cell
  cases o with
  | false=>
   go_wp2;go_ret
   exact⟨ret_bool (by rw[i.o];rfl),r⟩
  | true=>
   go_wp2_with fail;refine(zero_any ng' B m c' ex' w2 O).mono ?_;rw[v.o];rintro e w3 ⟨rfl,k⟩;go_wp2;go_ret
   exact⟨ret_bool (by rw[i.o,Bool.true_and]),(r.o.t k)⟩
 | false=>
  obtain⟨o,a⟩:∃z,vldL ng l ex=z:=⟨_,rfl⟩
  obtain⟨s,b⟩:∃z,vldL ng' l' ex'=z:=⟨_,rfl⟩
  obtain⟨R,C⟩:∃z,cmpD ⟨ng,val l,ex⟩ ⟨ng',val l',ex'⟩=z:=⟨_,rfl⟩
  have u:=hI a;have v:=hI b;have S:=hI C;have i:=hI (show vldIB ng l ex ng' l' ex' false=(o&&s&&decide (R≤0))by unfold vldIB;rw[if_neg (by decide),a,b,C]);clear a b C
  go_in
  go_wp2_with fail;obtain⟨x,j,p,_⟩:=aX w 77 #[.b ng,.l A n c,.i ex,.b ng',.l B m c',.i ex',.b false];have D:=H.o.b9 p;have q:=hI (show Blk x (w.heap.size) 77 #[.b ng,.l A n c,.i ex,.b ng',.l B m c',.i ex',.b false]by rw[j];exact Blk.new _ _ _);rw[←j];clear j;have d:=q.o.cell;go_wp2_with fail;refine(valid_any ng A n c ex l x D.o).mono ?_;rw[u.o];rintro e w2 ⟨rfl,g⟩;have E:=hI ((M.o.belowW p.o).belowW g.o);have y:=q.o.b9 g;have r:=p.o.t g;clear d;have d:=y.o.cell
  cases o with
  | false=>
   go_wp2;go_ret
   exact⟨ret_bool (by rw[i.o];rfl),r⟩
  | true=>
   go_wp2_with fail;refine(valid_any ng' B m c' ex' l' w2 E.o).mono ?_;rw[v.o];rintro e w3 ⟨rfl,k⟩;have T:=y.o.b9 k;have F:=r.o.t k;clear d;have d:=T.o.cell
   cases s with
   | false=>
    go_wp2;go_ret
    exact⟨ret_bool (by rw[i.o];rfl),F⟩
   | true=>
    go_wp2_with fail;obtain⟨G,I⟩:=vldL_iff.1 u.o;obtain⟨J,L⟩:=vldL_iff.1 v.o;have U:=hI (show Sl w3 A n c (limbs (val l))by rw[←G];exact((D.o.belowW g.o).belowW k.o));have V:=hI (show Sl w3 B m c' (limbs (val l'))by rw[←J];exact(E.o.belowW k.o));have W:=hI I;have X:=hI L;clear G I J L;refine(dcmp_any ⟨ng,val l,ex⟩ ⟨ng',val l',ex'⟩ A B n c m c' w3 U.o V.o W.o X.o).mono ?_;rw[S.o];rintro e w4 ⟨rfl,Y⟩;go_wp2;go_ret;exact⟨ret_bool (by rw[i.o];rfl),(F.o.t Y)⟩
structure IvN where
  x:Iv
  A:Option Addr
  n:Nat
  c:Nat
  B:Option Addr
  m:Nat
  d:Nat
structure InI (w:World) (v:IvN):Prop where
  l:Sl w v.A v.n v.c (limbs v.x.lo.k)
  h:Sl w v.B v.m v.d (limbs v.x.hi.k)
  o:v.x.ok
theorem InI.belowW{w w':World}{v:IvN}(h:InI w v)(hb:Below w.heap.size w w'):InI w' v:=⟨h.l.belowW hb,h.h.belowW hb,h.o⟩
theorem InI.b9{w w':World}{v:IvN}(h:InI w v)(hb:Go.RowKit.Hid (Go.RowKit.Below w.heap.size w w')):Go.RowKit.Hid (InI w' v):=hI (InI.belowW h hb.o)
def IvN.cells(v:IvN):Array Value:=#[.b v.x.lo.neg,.l v.A v.n v.c,.i v.x.lo.e,.b v.x.hi.neg,.l v.B v.m v.d,.i v.x.hi.e,.b v.x.all]
def wh9:IvN:=⟨whI,none,0,0,none,0,0⟩
theorem wh9_in(w:World):InI w wh9:=⟨by show Sl w none 0 0 (limbs 0);rw[limbs_zero];exact Sl.none_ _,by show Sl w none 0 0 (limbs 0);rw[limbs_zero];exact Sl.none_ _,whI_ok⟩
def IvQ(r:Iv)(w:World)(e:Ending)(w':World):Prop:=∃v:IvN,e= .returned (.agg #[.b v.x.lo.neg,.l v.A v.n v.c,.i v.x.lo.e,.b v.x.hi.neg,.l v.B v.m v.d,.i v.x.hi.e,.b v.x.all])∧Hid (v.x=r)∧Hid (InI w' v)∧Hid (Below w.heap.size w w')
theorem putI{w0 w:World}{g:Nat}{old:Array Value}{v:IvN}(hv:InI w v)(hB:Blk w g 77 old)(hN:NoU old)(hL:Below w0.heap.size w0 w)(hg:w0.heap.size≤g):
 Hid (InI (putB w g 77 v.cells) v)∧Hid (Below w0.heap.size w0 (putB w g 77 v.cells))∧Hid (Blk (putB w g 77 v.cells) g 77 v.cells):=
 ⟨hI ⟨hv.l.far hB hN (putB_grown _ _ _ _),hv.h.far hB hN (putB_grown _ _ _ _),hv.o⟩,hI (hL.trans (putB_below _ _ _ _ hg)),hI (hB.put _)⟩
theorem ival_eq{x:Iv}(o:x.ok):vldIB x.lo.neg (limbs x.lo.k) x.lo.e x.hi.neg (limbs x.hi.k) x.hi.e x.all=x.val:=by
 unfold vldIB Iv.val
 cases h:x.all with
 | true=>
  obtain⟨h1,h2⟩:=o.a h;rw[h1,h2]
  show(zeroB false (limbs 0).length 0&&zeroB false (limbs 0).length 0)=true
  rw[limbs_zero]
  rfl
 | false=>
  have e1:vldL x.lo.neg (limbs x.lo.k) x.lo.e=true:=vldL_iff.2 ⟨by rw[val_limbs],by rw[val_limbs];exact o.l⟩;have e2:vldL x.hi.neg (limbs x.hi.k) x.hi.e=true:=vldL_iff.2 ⟨by rw[val_limbs],by rw[val_limbs];exact o.h⟩;rw[e1,e2,val_limbs,val_limbs]
  rfl
theorem ivalid_in(v:IvN)(w:World)(h:InI w v):Calls Tryz.prog 77 #[.agg #[.b v.x.lo.neg,.l v.A v.n v.c,.i v.x.lo.e,.b v.x.hi.neg,.l v.B v.m v.d,.i v.x.hi.e,.b v.x.all]] w (Ret (.b v.x.val) w):=by
 have:=ivalid_any v.x.lo.neg v.A v.n v.c v.x.lo.e _ v.x.hi.neg v.B v.m v.d v.x.hi.e _ v.x.all w h.l h.h
 rwa [ival_eq h.o]at this
def lessD(a b:D):D:=if cmpD a b≤0 then a else b
def moreD(a b:D):D:=if 0≤cmpD a b then a else b
theorem kn_eq{x:Iv}(h:x.all=false):x.val=x.kn:=by unfold Iv.val Iv.kn;rw[h];rfl
theorem whole_any(w:World):Calls Tryz.prog 75 #[] w (fun e w'=>e= .returned (.agg #[.b false,.sn,.i 0,.b false,.sn,.i 0,.b true])∧Hid (Below w.heap.size w w')):=by
 go_in
 go_wp2;refine bodyPost_ret (v:= .agg #[.b false,.sn,.i 0,.b false,.sn,.i 0,.b true]) (by simp[results,Tryz.results75,go_sem]) rfl ?_;exact⟨rfl,hI (below_a1 _ _)⟩
theorem permitted_any(p:Int)(w:World):
 Calls Tryz.prog 198 #[.i p] w fun e w'=>e= .returned (.b (precB p))∧w=w':=by
 by_cases h1:8≤p
 ·
  have d1:decide (8≤p)=true:=decide_eq_true h1
  by_cases h2:p≤512
  ·
   have d2:decide (p≤512)=true:=decide_eq_true h2;have HR:=hI (show precB p=true by simp[precB,h1,h2])
   go_in
   go_wp2
   go_ret;exact⟨ret_bool HR.o.symm,rfl⟩
  have d2:decide (p≤512)=false:=decide_eq_false h2;have HR:=hI (show precB p=false by simp[precB,h2])
  go_in
  go_wp2
  go_ret;exact⟨ret_bool HR.o.symm,rfl⟩
 have d1:decide (8≤p)=false:=decide_eq_false h1;have HR:=hI (show precB p=false by simp[precB,h1])
 skip
 go_in
 go_wp2
 go_ret;exact⟨ret_bool HR.o.symm,rfl⟩
def KnR1(w:World)(g:Nat)(cs:Array Value)(qv:Bool)(k:Nat)(iv:Value)(wr:World):Prop:=
  ∃j:Nat,iv= .i j∧j≤1∧k=1-j∧Hid (Blk wr g 77 cs)∧Hid (Below w.heap.size w wr)∧Hid (1≤j→qv=true)
theorem known1_in(g:Nat)(v:IvN)(w:World)(hB:Blk w g 77 #[.b v.x.lo.neg,.l v.A v.n v.c,.i v.x.lo.e,.b v.x.hi.neg,.l v.B v.m v.d,.i v.x.hi.e,.b v.x.all])(hv:InI w v):
 Calls Tryz.prog 197 #[.l (some ⟨g,0,none⟩) 1 1] w (Ret (.b (v.x.kn)) w):=by
 have C:=hI hB;have D:=hI hv;obtain⟨b,i⟩:=eX (v.x.kn);have o:=hI i.symm;rw[←i];clear hB hv i
 go_in
 go_wp2
 go_loopg [7] 1 (KnR1 w g #[.b v.x.lo.neg,.l v.A v.n v.c,.i v.x.lo.e,.b v.x.hi.neg,.l v.B v.m v.d,.i v.x.hi.e,.b v.x.all] b)
 case atStart=>exact⟨0,rfl,by omega,by omega,C,hI (Below.refl _ _),hI (fun h=>absurd h (by omega))⟩
 obtain⟨j,rfl,I,rfl,a,k,E⟩:=hrel
 by_cases hj0:j=0
 ·
  subst hj0
  cases hal:v.x.all with
  | true=>
   have p:=a.o.cell;have l:wr.cell? ⟨g,6,none⟩=some (.b true):=(by rw[←hal];exact a.o.cell 6);go_wp2_with fail;generalize hw9:World.alloc _ _=ww1;obtain⟨F,_⟩:=gn1 hw9;clear hw9;clear p l;have G:b=false:=(by rw[←o.o];unfold Iv.kn;rw[hal];rfl);go_ret
   exact⟨ret_bool (by rw[G]),(k.o.t F)⟩
  | false=>
   have p:=a.o.cell;have l:wr.cell? ⟨g,6,none⟩=some (.b false):=(by rw[←hal];exact a.o.cell 6);go_wp2_with fail;generalize hw9:World.alloc _ _=ww2;obtain⟨q,_⟩:=gn1 hw9;clear hw9;have r:=k.o.t q;clear p l;have s:=hI hal;have u:v.x.val=b:=(kn_eq hal).trans o.o;clear hal;refine(show Calls Tryz.prog 77 #[.agg #[.b v.x.lo.neg,.l v.A v.n v.c,.i v.x.lo.e,.b v.x.hi.neg,.l v.B v.m v.d,.i v.x.hi.e,.b false]] ww2 _ from by have:=ivalid_in v ww2 (D.o.belowW r.o);rwa [s.o]at this).mono ?_;rw[u];rintro e ww3 ⟨rfl,y⟩;have z:=r.o.t y;clear u s
   cases b with
   | false=>
    go_wp2;go_ret
    exact⟨ret_bool (by simp),z⟩
   | true=>
    go_wp2
    go_roundg 0
    case measure=>omega
    case rel=>exact⟨1,by go_num,by omega,by omega,(hI ((a.o.belowW q.o).belowW y.o)),z,hI (fun _=>rfl)⟩
 obtain rfl:j=1:=by omega
 have H:=E.o (by omega);go_wp2;go_ret;exact⟨ret_bool (by rw[H]),k⟩
def KnR2(w:World)(g:Nat)(cs:Array Value)(qv qu:Bool)(k:Nat)(iv:Value)(wr:World):Prop:=
  ∃j:Nat,iv= .i j∧j≤2∧k=2-j∧Hid (Blk wr g 77 cs)∧Hid (Below w.heap.size w wr)∧Hid (1≤j→qv=true)∧Hid (2≤j→qu=true)
theorem known2_in(g:Nat)(v:IvN)(u:IvN)(w:World)(hB:Blk w g 77 #[.b v.x.lo.neg,.l v.A v.n v.c,.i v.x.lo.e,.b v.x.hi.neg,.l v.B v.m v.d,.i v.x.hi.e,.b v.x.all,.b u.x.lo.neg,.l u.A u.n u.c,.i u.x.lo.e,.b u.x.hi.neg,.l u.B u.m u.d,.i u.x.hi.e,.b u.x.all])(hv:InI w v)(hu:InI w u):
 Calls Tryz.prog 197 #[.l (some ⟨g,0,none⟩) 2 2] w (Ret (.b (v.x.kn&&u.x.kn)) w):=by
 have J:=hI hB;have L:=hI hv;obtain⟨y,C⟩:=eX (v.x.kn);have G:=hI C.symm;have M:=hI hu;obtain⟨z,D⟩:=eX (u.x.kn);have H:=hI D.symm;rw[←C,←D];clear hB hv C hu D
 go_in
 go_wp2
 go_loopg [7] 2 (KnR2 w g #[.b v.x.lo.neg,.l v.A v.n v.c,.i v.x.lo.e,.b v.x.hi.neg,.l v.B v.m v.d,.i v.x.hi.e,.b v.x.all,.b u.x.lo.neg,.l u.A u.n u.c,.i u.x.lo.e,.b u.x.hi.neg,.l u.B u.m u.d,.i u.x.hi.e,.b u.x.all] y z)
 case atStart=>exact⟨0,rfl,by omega,by omega,J,hI (Below.refl _ _),hI (fun h=>absurd h (by omega)),hI (fun h=>absurd h (by omega))⟩
 obtain⟨j,rfl,Q,rfl,a,i,I,N⟩:=hrel
 by_cases hj0:j=0
 ·
  subst hj0
  cases hal:v.x.all with
  | true=>
   have p:=a.o.cell;have b:wr.cell? ⟨g,6,none⟩=some (.b true):=(by rw[←hal];exact a.o.cell 6);go_wp2_with fail;generalize hw9:World.alloc _ _=ww1;obtain⟨E,_⟩:=gn1 hw9;clear hw9;clear p b;have F:y=false:=(by rw[←G.o];unfold Iv.kn;rw[hal];rfl);go_ret
   exact⟨ret_bool (by rw[F];rfl),(i.o.t E)⟩
  | false=>
   have p:=a.o.cell;have b:wr.cell? ⟨g,6,none⟩=some (.b false):=(by rw[←hal];exact a.o.cell 6);go_wp2_with fail;generalize hw9:World.alloc _ _=ww2;obtain⟨k,_⟩:=gn1 hw9;clear hw9;have l:=i.o.t k;clear p b;have o:=hI hal;have q:v.x.val=y:=(kn_eq hal).trans G.o;clear hal;refine(show Calls Tryz.prog 77 #[.agg #[.b v.x.lo.neg,.l v.A v.n v.c,.i v.x.lo.e,.b v.x.hi.neg,.l v.B v.m v.d,.i v.x.hi.e,.b false]] ww2 _ from by have:=ivalid_in v ww2 (L.o.belowW l.o);rwa [o.o]at this).mono ?_;rw[q];rintro e ww3 ⟨rfl,r⟩;have s:=l.o.t r;clear q o
   cases y with
   | false=>
    go_wp2;go_ret
    exact⟨ret_bool (by simp),s⟩
   | true=>
    go_wp2
    go_roundg 1
    case measure=>omega
    case rel=>exact⟨1,by go_num,by omega,by omega,(hI ((a.o.belowW k.o).belowW r.o)),s,hI (fun _=>rfl),hI (fun h=>absurd h (by omega))⟩
 by_cases hj1:j=1
 ·
  subst hj1
  cases hal:u.x.all with
  | true=>
   have p:=a.o.cell;have b:wr.cell? ⟨g,13,none⟩=some (.b true):=(by rw[←hal];exact a.o.cell 13);go_wp2_with fail;generalize hw9:World.alloc _ _=ww1;obtain⟨E,_⟩:=gn1 hw9;clear hw9;clear p b;have F:z=false:=(by rw[←H.o];unfold Iv.kn;rw[hal];rfl);go_ret
   exact⟨ret_bool (by rw[F];simp),(i.o.t E)⟩
  | false=>
   have p:=a.o.cell;have b:wr.cell? ⟨g,13,none⟩=some (.b false):=(by rw[←hal];exact a.o.cell 13);go_wp2_with fail;generalize hw9:World.alloc _ _=ww2;obtain⟨k,_⟩:=gn1 hw9;clear hw9;have l:=i.o.t k;clear p b;have o:=hI hal;have q:u.x.val=z:=(kn_eq hal).trans H.o;clear hal;refine(show Calls Tryz.prog 77 #[.agg #[.b u.x.lo.neg,.l u.A u.n u.c,.i u.x.lo.e,.b u.x.hi.neg,.l u.B u.m u.d,.i u.x.hi.e,.b false]] ww2 _ from by have:=ivalid_in u ww2 (M.o.belowW l.o);rwa [o.o]at this).mono ?_;rw[q];rintro e ww3 ⟨rfl,r⟩;have s:=l.o.t r;clear q o
   cases z with
   | false=>
    go_wp2;go_ret
    exact⟨ret_bool (by simp),s⟩
   | true=>
    go_wp2
    go_roundg 0
    case measure=>omega
    case rel=>exact⟨2,by go_num,by omega,by omega,(hI ((a.o.belowW k.o).belowW r.o)),s,hI (fun _=>I.o (by omega)),hI (fun _=>rfl)⟩
 obtain rfl:j=2:=by omega
 have O:=I.o (by omega);have P:=N.o (by omega);go_wp2;go_ret;exact⟨ret_bool (by rw[O,P];rfl),i⟩
theorem made_in(a b:D×Int)(A B:Option Addr)(n c m d:Nat)(w:World)(ha:Sl w A n c (limbs a.1.k))(hb:Sl w B m d (limbs b.1.k))(va:vld a.1)(vb:vld b.1):
 Calls Tryz.prog 201 #[.agg #[.b a.1.neg,.l A n c,.i a.1.e],.i a.2,.agg #[.b b.1.neg,.l B m d,.i b.1.e],.i b.2] w (IvQ (mdI a b) w):=by
 obtain⟨a,x⟩:=a;obtain⟨b,y⟩:=b;have H:=hI ha;have I:=hI hb;have J:=hI va;have L:=hI vb;clear ha hb va vb;simp only at H I J L ⊢;obtain⟨C,E⟩:=eX (mdI (a,x) (b,y));have F:=hI E;rw[←E];clear E;have Q:=hI (Below.refl w.heap.size w)
 go_in
 go_upto_region 1 with(fail);generalize i:World.alloc _ _=ww1;obtain⟨G,M,N,o⟩:=gn3 i;clear i;have r:=Q.o.t G
 by_cases h1:x=0
 case neg=>
  have V:(x !=0)=true:=(by simp[h1]);have s:=hI (show whI=C by rw[F.o];unfold mdI;rw[if_neg (fun h=>h1 h.1)]);clear h1;have g:=o.o.cell;have j:=o.o.frozen;go_wp2_with fail;refine(whole_any ww1).mono ?_;rintro e ww2 ⟨rfl,O⟩;have u:=o.o.b9 O;clear g j;have g:=u.o.cell;have j:=u.o.frozen;go_wp2;rw[store7_put u.o];obtain⟨p,q,l⟩:=putI (v:=wh9) (wh9_in _) u.o noU7 (r.o.trans (O.o.mono r.o.size)) (by omega);obtain⟨w9,i⟩:=eX (putB ww2 (w.heap.size+1+1) 77 #[.b false,.sn,.i 0,.b false,.sn,.i 0,.b true]);rw[show(wh9:IvN).cells=#[.b false,.sn,.i 0,.b false,.sn,.i 0,.b true]from rfl,←i]at p q l;rw[←i];clear i;clear g j;have g:=l.o.cell;have j:=l.o.frozen;refine bodyPost_ret (v:= .agg #[.b false,.sn,.i 0,.b false,.sn,.i 0,.b true]) (by simp[results,Tryz.results201,go_sem,g]) rfl ?_;exact⟨wh9,rfl,s,p,q⟩
 subst h1
 by_cases h2:y=0
 case neg=>
  have W:(y !=0)=true:=(by simp[h2]);have s:=hI (show whI=C by rw[F.o];unfold mdI;rw[if_neg (fun h=>h2 h.2)]);clear h2;have g:=o.o.cell;have j:=o.o.frozen;go_wp2_with fail;refine(whole_any ww1).mono ?_;rintro e ww3 ⟨rfl,P⟩;have z:=o.o.b9 P;clear g j;have g:=z.o.cell;have j:=z.o.frozen;go_wp2;rw[store7_put z.o];obtain⟨p,q,l⟩:=putI (v:=wh9) (wh9_in _) z.o noU7 (r.o.trans (P.o.mono r.o.size)) (by omega);obtain⟨w9,i⟩:=eX (putB ww3 (w.heap.size+1+1) 77 #[.b false,.sn,.i 0,.b false,.sn,.i 0,.b true]);rw[show(wh9:IvN).cells=#[.b false,.sn,.i 0,.b false,.sn,.i 0,.b true]from rfl,←i]at p q l;rw[←i];clear i;clear g j;have g:=l.o.cell;have j:=l.o.frozen;refine bodyPost_ret (v:= .agg #[.b false,.sn,.i 0,.b false,.sn,.i 0,.b true]) (by simp[results,Tryz.results201,go_sem,g]) rfl ?_;exact⟨wh9,rfl,s,p,q⟩
 subst h2;have s:=hI (show(⟨a,b,false⟩:Iv)=C by rw[F.o];rfl);have R:=M.o.cell;have S:=M.o.frozen;have T:=N.o.cell;have U:=N.o.frozen;have g:=o.o.cell;have j:=o.o.frozen;go_wp2;rw[store7_put o.o];obtain⟨p,q,l⟩:=putI (v:=⟨⟨a,b,false⟩,A,n,c,B,m,d⟩) ⟨(H.o.belowW G.o),(I.o.belowW G.o),⟨J.o,L.o,fun h=>by cases h⟩⟩ o.o noU7 r.o (by omega);obtain⟨w9,i⟩:=eX (putB ww1 (w.heap.size+1+1) 77 #[.b a.neg,.l A n c,.i a.e,.b b.neg,.l B m d,.i b.e,.b false]);rw[show(⟨⟨a,b,false⟩,A,n,c,B,m,d⟩:IvN).cells=#[.b a.neg,.l A n c,.i a.e,.b b.neg,.l B m d,.i b.e,.b false]from rfl,←i]at p q l;rw[←i];clear i;clear R S T U g j;have g:=l.o.cell;have j:=l.o.frozen;refine bodyPost_ret (v:= .agg #[.b a.neg,.l A n c,.i a.e,.b b.neg,.l B m d,.i b.e,.b false]) (by simp[results,Tryz.results201,go_sem,g]) rfl ?_;exact⟨⟨⟨a,b,false⟩,A,n,c,B,m,d⟩,rfl,s,p,q⟩
theorem less_in(a b:D)(A B:Option Addr)(n c m d:Nat)(w:World)(ha:Sl w A n c (limbs a.k))(hb:Sl w B m d (limbs b.k))(va:vld a)(vb:vld b):
 Calls Tryz.prog 79 #[.agg #[.b a.neg,.l A n c,.i a.e],.agg #[.b b.neg,.l B m d,.i b.e]] w (DyR (lessD a b) w):=by
 have H:=hI ha;have I:=hI hb;have J:=hI va;have L:=hI vb;obtain⟨z,s⟩:=eX (cmpD a b);have o:=hI s.symm;clear ha hb va vb s;have M:=hI (Below.refl w.heap.size w)
 go_in
 go_upto_region 1 with(fail);generalize hw9:World.alloc _ _=ww1;obtain⟨p,j,l,N⟩:=gn3 hw9;clear hw9;have O:=M.o.t p;have u:=H.o.b9 p;have x:=I.o.b9 p;have y:=j.o.cell;have C:=j.o.frozen;have E:=l.o.cell;have F:=l.o.frozen;go_wp2_with fail;refine(dcmp_any a b A B n c m d ww1 u.o x.o J.o L.o).mono ?_;rw[o.o];rintro e ww2 ⟨rfl,g⟩;have G:=O.o.t g;have i:=N.o.b9 g;clear y C E F;have y:=(j.o.belowW g.o).cell;have C:=(j.o.belowW g.o).frozen;have E:=(l.o.belowW g.o).cell;have F:=(l.o.belowW g.o).frozen
 by_cases h:z≤0
 ·
  have P:decide (z≤0)=true:=decide_eq_true h;have q:=hI (show lessD a b=a by unfold lessD;rw[o.o,if_pos h]);clear h;have r:=i.o.cell;have Q:=i.o.frozen;go_wp2;refine bodyPost_ret (v:= .agg #[.b a.neg,.l A n c,.i a.e]) (by simp[results,Tryz.results79,go_sem,r]) rfl ?_;rw[q.o];exact⟨A,n,c,rfl,hI (store3_sl (u.o.belowW g.o) i.o noU3 _ _ _),hI (store3_below G.o i.o _ _ _ (by omega))⟩
 have P:decide (z≤0)=false:=decide_eq_false h;have q:=hI (show lessD a b=b by unfold lessD;rw[o.o,if_neg h]);clear h;have r:=i.o.cell;have Q:=i.o.frozen;go_wp2;refine bodyPost_ret (v:= .agg #[.b b.neg,.l B m d,.i b.e]) (by simp[results,Tryz.results79,go_sem,r]) rfl ?_;rw[q.o];exact⟨B,m,d,rfl,hI (store3_sl (x.o.belowW g.o) i.o noU3 _ _ _),hI (store3_below G.o i.o _ _ _ (by omega))⟩
theorem more_in(a b:D)(A B:Option Addr)(n c m d:Nat)(w:World)(ha:Sl w A n c (limbs a.k))(hb:Sl w B m d (limbs b.k))(va:vld a)(vb:vld b):
 Calls Tryz.prog 78 #[.agg #[.b a.neg,.l A n c,.i a.e],.agg #[.b b.neg,.l B m d,.i b.e]] w (DyR (moreD a b) w):=by
 have H:=hI ha;have I:=hI hb;have J:=hI va;have L:=hI vb;obtain⟨z,s⟩:=eX (cmpD a b);have o:=hI s.symm;clear ha hb va vb s;have M:=hI (Below.refl w.heap.size w)
 go_in
 go_upto_region 1 with(fail);generalize hw9:World.alloc _ _=ww1;obtain⟨p,j,l,N⟩:=gn3 hw9;clear hw9;have O:=M.o.t p;have u:=H.o.b9 p;have x:=I.o.b9 p;have y:=j.o.cell;have C:=j.o.frozen;have E:=l.o.cell;have F:=l.o.frozen;go_wp2_with fail;refine(dcmp_any a b A B n c m d ww1 u.o x.o J.o L.o).mono ?_;rw[o.o];rintro e ww2 ⟨rfl,g⟩;have G:=O.o.t g;have i:=N.o.b9 g;clear y C E F;have y:=(j.o.belowW g.o).cell;have C:=(j.o.belowW g.o).frozen;have E:=(l.o.belowW g.o).cell;have F:=(l.o.belowW g.o).frozen
 by_cases h:0≤z
 ·
  have P:decide (0≤z)=true:=decide_eq_true h;have q:=hI (show moreD a b=a by unfold moreD;rw[o.o,if_pos h]);clear h;have r:=i.o.cell;have Q:=i.o.frozen;go_wp2;refine bodyPost_ret (v:= .agg #[.b a.neg,.l A n c,.i a.e]) (by simp[results,Tryz.results78,go_sem,r]) rfl ?_;rw[q.o];exact⟨A,n,c,rfl,hI (store3_sl (u.o.belowW g.o) i.o noU3 _ _ _),hI (store3_below G.o i.o _ _ _ (by omega))⟩
 have P:decide (0≤z)=false:=decide_eq_false h;have q:=hI (show moreD a b=b by unfold moreD;rw[o.o,if_neg h]);clear h;have r:=i.o.cell;have Q:=i.o.frozen;go_wp2;refine bodyPost_ret (v:= .agg #[.b b.neg,.l B m d,.i b.e]) (by simp[results,Tryz.results78,go_sem,r]) rfl ?_;rw[q.o];exact⟨B,m,d,rfl,hI (store3_sl (x.o.belowW g.o) i.o noU3 _ _ _),hI (store3_below G.o i.o _ _ _ (by omega))⟩
theorem isign_in(v:IvN)(w:World)(h:InI w v):Calls Tryz.prog 205 #[.agg #[.b v.x.lo.neg,.l v.A v.n v.c,.i v.x.lo.e,.b v.x.hi.neg,.l v.B v.m v.d,.i v.x.hi.e,.b v.x.all]] w (Ret (.i (signI v.x)) w):=by
 have N:=hI h;clear h;obtain⟨q,j⟩:=eX (v.x.kn);obtain⟨a,k⟩:=eX (sg v.x.lo);obtain⟨b,p⟩:=eX (sg v.x.hi);obtain⟨R,r⟩:=eX (signI v.x);have s:=hI (show R=if q then(if 0<a then 1 else if b<0 then -1 else 0)else 0 by rw[r];unfold signI;rw[j,k,p]);have O:=hI j.symm;have P:=hI k.symm;have Q:=hI p.symm;rw[←r];clear j k p r;have S:=hI (Below.refl w.heap.size w)
 go_in
 go_upto_region 1 with(fail);generalize hw9:World.alloc _ _=ww1;obtain⟨D,E⟩:=gn1 hw9;clear hw9;have T:=S.o.t D;have i:=E.o.cell;go_wp2_with fail;generalize hw9:World.alloc _ _=ww2;obtain⟨u,U⟩:=gn1 hw9;clear hw9;have V:=T.o.t u;have F:=hI ((N.o.belowW D.o).belowW u.o);clear i;refine(known1_in (ww1.heap.size) v ww2 U.o F.o).mono ?_;rw[O.o];rintro e ww3 ⟨rfl,y⟩;have G:=V.o.t y;have z:=F.o.b9 y;have H:=hI ((E.o.belowW u.o).belowW y.o);have i:=H.o.cell
 cases q with
 | false=>
  have g:=hI (show R=0 by rw[s.o];rfl);go_wp2;go_ret
  exact⟨ret_int g.o.symm,G⟩
 | true=>
  go_wp2_with fail;refine(sign_any v.x.lo v.A v.n v.c ww3 z.o.l z.o.o.l).mono ?_;rw[P.o];rintro e ww4 ⟨rfl,C⟩;have I:=G.o.t C;have J:=z.o.b9 C;clear i;have i:=(H.o.belowW C.o).cell
  by_cases h1:0<a
  ·
   have W:decide (0<a)=true:=decide_eq_true h1;have g:=hI (show R=1 by rw[s.o,if_pos trivial,if_pos h1]);clear h1;go_wp2;go_ret;exact⟨ret_int g.o.symm,I⟩
  have W:decide (0<a)=false:=decide_eq_false h1;have L:=hI (show R=if b<0 then -1 else 0 by rw[s.o,if_pos trivial,if_neg h1]);clear h1;go_wp2_with fail;refine(sign_any v.x.hi v.B v.m v.d ww4 J.o.h J.o.o.h).mono ?_;rw[Q.o];rintro e ww5 ⟨rfl,X⟩;have M:=I.o.t X;clear i
  by_cases h2:b<0
  ·
   have Y:decide (b<0)=true:=decide_eq_true h2;have g:=hI (show R= -1 by rw[L.o,if_pos h2]);clear h2;go_wp2;go_ret;exact⟨ret_int g.o.symm,M⟩
  have Y:decide (b<0)=false:=decide_eq_false h2;have g:=hI (show R=0 by rw[L.o,if_neg h2]);clear h2;go_wp2;go_ret;exact⟨ret_int g.o.symm,M⟩
