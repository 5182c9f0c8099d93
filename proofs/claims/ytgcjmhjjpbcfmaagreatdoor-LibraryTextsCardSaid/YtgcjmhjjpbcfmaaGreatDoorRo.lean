import Derived.Test.YtgcjmhjjpbcfmaaGreatDoorLiQ
import Derived.Test.YtgcjmhjjpbcfmaaGreatDoorRcE
open List renaming setIfInBounds_toArray → Lj,set_cons_zero → Lk,set_cons_succ → Lq,getElem_toArray → Ly,getElem_cons_zero → Lz,getElem_cons_succ → Lv
set_option maxHeartbeats 8000000
set_option maxRecDepth 100000
namespace Go.Proofs.YtgcjmhjjpbcfmaaGreatDoor
open Go.RowKit Go.Fl Go.Fl.Nm Go.Fl.Dy Go.Fl.Fm Go.Fl.Rt Go.Fl.Lb
theorem renc_23(w:World):Calls Tryz.prog 19 #[.agg #[.i 2,.i 3],.i 60] w (IvQ (enV 2 3 60) w):=
  (encloseR_pos 2 3 60 w (by decide) (by decide) (by decide) (by decide) (by decide) (by decide) (by decide) (by decide)).mono (by
    rintro e w' ⟨A,B,a,c,m,d',he,h5,h6,h7⟩
    exact⟨⟨enV 2 3 60,A,a,c,B,m,d'⟩,he,hI rfl,hI ⟨h5.o,h6.o,enV_ok 2 3 60⟩,h7⟩)
theorem val_one{w:World}{base:Nat}{v:Value}{q:IvN}(h:OwnN w base 77 7 v 1 ([q].flatMap IvN.cl)):∃(b o c:Nat),v= .l (some ⟨b,o,none⟩) 1 c∧Hid (At w b o (IvN.cl q)):=by
 obtain⟨A,c,hv,_,_,_,hrd⟩:=h.rd;obtain⟨b,o,hA,hb,hc⟩:=hrd.at_ Nat.one_pos;subst hA;exact⟨b,o,c,hv,hI ⟨hb,fun j u hu=>hc j u (by simpa using hu)⟩⟩
theorem awake51_any(w:World)(hR:RX w)(hX:FX w):Calls Tryz.prog 5 #[] w (Ret (.b true) w):=by
 have O:=hI hR;have P:=hI hX;clear hR hX;have Q:=hI (Below.refl w.heap.size w)
 go_in
 go_wp2_with fail;generalize hw9:World.alloc _ _=ww1;obtain⟨p,R⟩:=gn1 hw9;clear hw9;have T:=Q.o.t p;have U:=hI (show InL 2 rtc R64 ww1 (some ⟨w.heap.size,0,none⟩) 1 1 [(1,1)]from⟨rfl,Nat.le_refl _,by decide,rd_blk R.o rfl,fun z hz=>by rw[List.mem_singleton.1 hz];exact⟨by decide,by decide,by decide,by decide⟩⟩);have V:=hI (show InL 2 rtc R64 ww1 none 0 0 []from⟨rfl,Nat.le_refl _,by decide,rd_nil _ _,fun z hz=>absurd hz (by simp)⟩);have s:=hI (known_yes ap0 4 ⟨#[100,101,99,97,121]⟩ (some ⟨w.heap.size,0,none⟩) 1 1 [(1,1)] none 0 0 [] (1,2) 53 ww1 U.o V.o ⟨by decide,by decide,by decide,by decide⟩ (O.o.belowW p.o) (P.o.belowW p.o) (by show(fE bDc).2=0;rw[fE_dc]) (by show(fE bDc).1.kn≠[];rw[fE_dc];unfold en0;simp) (by show _=(pO bDc).st.length;rw[pO_dc];rfl) (by show _=(pO bDc).pa.length;rw[pO_dc];rfl) (by decide) rfl (by decide) (by decide) (by decide) (by decide) (by decide) ok_dc (fun _=>pb_dc));rw[show outV ap0 (⟨#[100,101,99,97,121]⟩:ByteArray).data.toList ([(1,1)]++[]++[(1,2)]) 53 4=[dcV]from out_dc]at s;go_wp2_with fail;refine(s.o).mono ?_;rintro e ww2 ⟨v,W,y,rfl,C,X⟩;have D:=T.o.t X
 obtain⟨Y,q,Z,aa,E,ab,F⟩:W=0∧∃q,v=v∧y=[q]∧Hid (OwnN ww2 ww1.heap.size 77 7 v 1 ([q].flatMap IvN.cl))∧Hid (InI ww2 q)∧Hid (q.x=dcV):=by
  rcases C.o with⟨h,_⟩ | ⟨_,h1,h2,h3,h4⟩
  ·
   exfalso
   rw[List.any_cons,List.any_nil,meet_dc.1]at h
   cases h
  have h5:y.length=1:=by
   have G:=congrArg List.length h4;rw[List.length_map]at G;exact G
  obtain⟨q,hq⟩:=List.length_eq_one_iff.1 h5;subst hq;exact⟨h1,q,rfl,rfl,hI h2,hI (h3 q (by simp)),hI (List.singleton_inj.1 h4)⟩
 subst Y aa;clear Z C;obtain⟨j,k,c9,ae,af⟩:=val_one E.o;subst ae;clear E;have ag:=hI meet_dc.2;have aq:=hI F.o;have ar:=hI D.o;go_upto_region 2 with(fail);have o:=hI (below_dr ww2);have H:=D.o.t o;have a:=af.o.b9 o;have I:=ab.o.b9 o
 refine wp_region_held_drew (S:=fun w'=>w'.cell? ⟨j,k,none⟩=some (.b q.x.lo.neg)∧w'.cell? ⟨j,k+1,none⟩=some (.l q.A q.n q.c)∧w'.cell? ⟨j,k+2,none⟩=some (.i q.x.lo.e)∧w'.cell? ⟨j,k+3,none⟩=some (.b q.x.hi.neg)∧w'.cell? ⟨j,k+4,none⟩=some (.l q.B q.m q.d)∧w'.cell? ⟨j,k+5,none⟩=some (.i q.x.hi.e)∧w'.cell? ⟨j,k+6,none⟩=some (.b q.x.all)) (by kernel_rfl) ⟨a.o.c 0 _ rfl,a.o.c 1 _ rfl,a.o.c 2 _ rfl,a.o.c 3 _ rfl,a.o.c 4 _ rfl,a.o.c 5 _ rfl,a.o.c 6 _ rfl⟩ fun hHeld=>?_
 obtain⟨ah,J⟩:=eX (ww2.drew);rw[←J]at o H a I hHeld ⊢;clear J;refine tkW 0 ?_;refine tkW 1 ?_;refine tkW 2 ?_;refine tkW 3 ?_;refine tkW 4 ?_;refine tkW 5 ?_;refine tkW 6 ?_;refine tkW 7 ?_;refine tkW 8 ?_;refine tkW 9 ?_;refine tkW 10 ?_;refine tkW 11 ?_
 refine wr1 12 fun K hK=>?_
 go_simp
 (with_reducible refine(renc_23 ah).mono ?_)
 rintro e w122 ⟨u,rfl,ai,HU,r⟩;have ak:=H.o.t r;have b:=a.o.b9 r;go_wp2_with fail;clear hHeld
 refine hK.out _ _ ⟨b.o.c 0 _ rfl,b.o.c 1 _ rfl,b.o.c 2 _ rfl,b.o.c 3 _ rfl,b.o.c 4 _ rfl,b.o.c 5 _ rfl,b.o.c 6 _ rfl⟩ fun hHeld=>?_
 clear hK K
 try simp only[Lj,Lk,Lq]
 refine wr1 13 fun K hK=>?_
 go_simp
 (with_reducible refine(show Calls Tryz.prog 18 #[.agg #[.b q.x.lo.neg,.l q.A q.n q.c,.i q.x.lo.e,.b q.x.hi.neg,.l q.B q.m q.d,.i q.x.hi.e,.b q.x.all],.agg #[.b u.x.lo.neg,.l u.A u.n u.c,.i u.x.lo.e,.b u.x.hi.neg,.l u.B u.m u.d,.i u.x.hi.e,.b u.x.all]] w122 _ from meets_in q u w122 (I.o.belowW r.o) (HU.o)).mono ?_)
 rw[F.o,ai.o,ag.o];rintro e w123 ⟨rfl,L⟩;have al:=ak.o.t L;have g:=b.o.b9 L;go_wp2_with fail;clear hHeld
 refine hK.out _ _ ⟨g.o.c 0 _ rfl,g.o.c 1 _ rfl,g.o.c 2 _ rfl,g.o.c 3 _ rfl,g.o.c 4 _ rfl,g.o.c 5 _ rfl,g.o.c 6 _ rfl⟩ fun hHeld=>?_
 clear hK K
 try simp only[Lj,Lk,Lq]
 refine tkW 14 ?_;refine tkW 15 ?_
 refine wr1 16 fun K hK=>?_
 go_simp
 (with_reducible refine(names_any w123).mono ?_)
 rintro e w124 ⟨vn,ln,rfl,am,aw,M⟩;have an:=al.o.t M;have i:=g.o.b9 M;obtain⟨An,cn,ao,_,_,_,_⟩:=am.o.rd;subst ao;go_wp2_with fail;clear hHeld
 refine hK.out _ _ ⟨i.o.c 0 _ rfl,i.o.c 1 _ rfl,i.o.c 2 _ rfl,i.o.c 3 _ rfl,i.o.c 4 _ rfl,i.o.c 5 _ rfl,i.o.c 6 _ rfl⟩ fun hHeld=>?_
 clear hK K
 try simp only[Lj,Lk,Lq]
 refine tkW 17 ?_
 refine wr1 18 fun K hK=>?_
 go_simp
 (with_reducible refine(all_any w124).mono ?_)
 rintro e w125 ⟨ga,za,rfl,a1,N⟩;have l:=i.o.b9 N;go_wp2_with fail;clear hHeld
 refine hK.out _ _ ⟨l.o.c 0 _ rfl,l.o.c 1 _ rfl,l.o.c 2 _ rfl,l.o.c 3 _ rfl,l.o.c 4 _ rfl,l.o.c 5 _ rfl,l.o.c 6 _ rfl⟩ fun hHeld=>?_
 clear hK K
 try simp only[Lj,Lk,Lq]
 refine tkW 19 ?_;refine tkW 20 ?_;refine tkW 21 ?_;refine tkW 22 ?_;refine wpAnyH_done (by kernel_rfl) ?_ _;go_wp2;go_ret;exact⟨ret_bool (by simp),(an.o.t N)⟩
end Go.Proofs.YtgcjmhjjpbcfmaaGreatDoor
namespace Go.Proofs.YtgcjmhjjpbcfmaaGreatDoor
open Go.RowKit Go.Fl Go.Fl.Nm Go.Fl.Lb
theorem seq_any(A:Option Addr)(n c:Nat)(B:Option Addr)(d:Nat)(l:List ByteArray)(w:World)(ha:Rd w 1 A n (l.map Value.string))(hb:Rd w 1 B n (l.map Value.string))(hn:n≤1000):
 Calls Tryz.prog 12 #[.l A n c,.l B n d] w (Ret (.b true) w):=by
 have o:=hI ha;have p:=hI hb;have q:=hI (show l.length=n by have h:=ha.1;rw[List.length_map]at h;omega);clear ha hb;have D:((n:Int)!=(n:Int))=false:=(by simp)
 go_in
 go_wp2
 go_loopg [13,5] n (fun k i i5 wr=>∃j:Nat,i= .i j∧j≤n∧k=n-j∧Hid (Below w.heap.size w wr))
 case atStart=>exact⟨0,rfl,by omega,by omega,hI (Below.refl _ _)⟩
 obtain⟨j,rfl,E,rfl,a⟩:=hrel
 by_cases hlt:j<n
 ·
  obtain⟨r,t,u,F,g⟩:=(o.o.below a.o).at_ (by omega);obtain⟨v,x,y,G,m⟩:=(p.o.below a.o).at_ (by omega);subst u y
  obtain⟨s,b⟩:∃s,l[j]? =some s:=⟨_,List.getElem?_eq_getElem (by rw[q.o];exact hlt)⟩
  have H:wr.cell? ⟨r,t+j,none⟩=some (.string s):=g j _ (by rw[List.getElem?_map,b];rfl);have I:wr.cell? ⟨v,x+j,none⟩=some (.string s):=m j _ (by rw[List.getElem?_map,b];rfl);clear g m b;have z:decide ((j:Int)<n)=true:=decide_eq_true (by omega);have J:decide (j<n)=true:=decide_eq_true hlt;have L:0≤(j:Int)∧(j:Int)<n:=(by omega);have M:n≤9223372036854775807:=(by omega);go_wp2
  go_quiet (fail)
  go_wp2
  go_roundg (n-(j+1))
  case measure=>omega
  case rel=>exact⟨j+1,by go_num,by omega,rfl,hI (below_drewN a.o _)⟩
 have C:n=j:=(by omega);subst C;have z:decide ((n:Int)<n)=false:=decide_eq_false (by omega);go_wp2;go_ret;exact⟨rfl,a⟩
theorem fE_or(s:List UInt8):(fE s).2=0∨fE s=(⟨[],[],[]⟩,7):=by
 unfold fE
 cases ents.find? (fun e=>e.nm==s)with
 | none=>exact .inr rfl
 | some e=>exact .inl rfl
theorem fE_ent:∀e∈ents,fE e.nm=(e,0):=by
 intro e he;unfold ents at he;simp only[List.mem_cons,List.not_mem_nil,or_false]at he
 rcases he with rfl | rfl | rfl | rfl | rfl | rfl | rfl | rfl | rfl | rfl | rfl | rfl | rfl | rfl | rfl | rfl | rfl | rfl<;>rfl
def PkP(x:EnN)(n:ByteArray)(ok:Bool):Prop:=(ok=true∧fE n.data.toList=(x.pl,0))∨(ok=false∧fE n.data.toList=(⟨[],[],[]⟩,7))
def PkQ(w:World)(e:Ending)(w':World):Prop:=∃(x:EnN) (n:ByteArray) (ok:Bool),e= .returned (.tuple #[.agg #[.string x.nm,.string x.tx,.l x.A x.n x.n],.string n,.b ok])∧Hid (PkP x n ok)∧Hid (InK (fun b=>w.heap.size≤b) w' x)∧Hid (Below w.heap.size w w')
theorem pick_any(k:Nat)(s:ByteArray)(w:World)(hk:k<256):Calls Tryz.prog 6 #[.int .u8 k,.string s] w (PkQ w):=by
 have aj:=hI (Below.refl w.heap.size w)
 go_in
 go_upto_region 1 with(fail);generalize a:World.alloc _ _=ww1;obtain⟨ak,M⟩:=gn1 a;clear a;have N:=aj.o.t ak;have a0:w.heap.size<ww1.heap.size:=M.o.lt;have a1:w.heap.size≤ww1.heap.size:=N.o.size;go_wp2_with fail;refine(all_any ww1).mono ?_;rintro e ww2 ⟨g,zs,rfl,O,u⟩;have P:=N.o.t u;have Q:=M.o.b9 u;have a3:ww1.heap.size≤ww2.heap.size:=u.o.size
 by_cases h240:240≤k
 ·
  have d1:decide ((240:Int)≤(k:Int))=true:=decide_eq_true (by omega);have am:decide (240≤k)=true:=decide_eq_true h240;obtain⟨m,R⟩:=eX (decide ((fE s.data.toList).2=0));have y:=hI R.symm;clear R;go_wp2_with fail;refine(find_any s ww2).mono ?_;rw[y.o];rintro e ww3 ⟨x,rfl,an,z,B⟩;have T:=P.o.t B;have a4:ww2.heap.size≤ww3.heap.size:=B.o.size;go_upto_region 4 with(fail);generalize a:World.alloc _ _=ww4;obtain⟨C,U⟩:=gn1 a;clear a;have o:=hI ((Q.o.belowW B.o).belowW C.o);have V:=U.o.cell;have W:=U.o.frozen
  have D:=hI (show PkP x s m by
   cases m with
   | true=>exact .inl ⟨rfl,Prod.ext an.o.symm (of_decide_eq_true y.o)⟩
   | false=>exact .inr ⟨rfl,(fE_or _).resolve_left (of_decide_eq_false y.o)⟩)
  have c:=o.o.cell;have E:=o.o.frozen;go_wp2;rw[store3_put o.o];obtain⟨p,F⟩:=eX (#[.string x.nm,.string x.tx,.l x.A x.n x.n]:Array Value);have q:=hI (o.o.put p);have X:=hI ((T.o.trans (C.o.mono T.o.size)).trans (putB_below ww4 (w.heap.size) 25 p (by omega)));have Y:=hI (InK.grown (z.o.below C.o) (fun b hb=>by omega) (putB_grown ww4 (w.heap.size) 25 p));obtain⟨w9,a⟩:=eX (putB ww4 (w.heap.size) 25 p);rw[←F];rw[←a]at q X Y ⊢;clear a c E;rw[F]at q;clear F;have c:=q.o.cell;have E:=q.o.frozen;refine bodyPost_ret (v:= .tuple #[.agg #[.string x.nm,.string x.tx,.l x.A x.n x.n],.string s,.b m]) (by simp[results,Tryz.results6,go_sem,c]) rfl ?_;exact⟨x,s,m,rfl,D,hI (Y.o.mono (fun b hb=>by omega)),X⟩
 have d1:decide ((240:Int)≤(k:Int))=false:=decide_eq_false (by omega);have am:decide (240≤k)=false:=decide_eq_false h240;obtain⟨j,ao⟩:=eX (k%18);have hj:j<18:=(by omega);have e1:((k:Int)).tmod 18=(j:Int):=(by rw[Int.tmod_eq_emod_of_nonneg (by omega)];omega);have e2:IntKind.i64.wrap (k:Int)=k:=(by rw[IntKind.wrap_i64];omega);have e3:IntKind.i64.wrap (j:Int)=j:=(by rw[IntKind.wrap_i64];omega);clear ao;obtain⟨x,Z,aa,ab⟩:=O.o.at_ j hj;have D:=hI (show PkP x x.nm true from .inl ⟨rfl,fE_ent x.pl (by rw[←O.o.e];exact List.mem_map_of_mem (List.mem_of_getElem? Z))⟩);have z:=hI aa;obtain⟨aq,c0,c1,c2⟩:=EnN.cells_at ab;clear Z aa ab;have a8:0≤(j:Int)∧(j:Int)<18:=(by omega);go_upto_region 6 with(fail);generalize a:World.alloc _ _=ww5;obtain⟨G,H⟩:=gn1 a;clear a;have aw:=P.o.t G;have ac:=Q.o.b9 G;clear c0 c1 c2 aq;have V:=H.o.cell;have W:=H.o.frozen;have ax:ww2.heap.size≠w.heap.size:=(by have:=ac.o.lt;omega);go_upto_region 6 with(fail);clear V W;have d:=hI (below_dr ww5);have ad:=aw.o.t d;have i:=ac.o.b9 d;have ae:=hI ((z.o.below G.o).below d.o);have I:=H.o.b9 d
 refine wp_region_held_drew (S:=fun w'=>cz3 w' ww2.heap.size (.string x.nm) (.string x.tx) (.l x.A x.n x.n)) (by kernel_rfl) I.o.cz3 fun hHeld=>?_
 obtain⟨J,af⟩:=eX (ww5.drew);rw[←af]at d ad i ae I hHeld ⊢;clear af;refine tkW 0 ?_;refine tkW 1 ?_;refine tkW 2 ?_
 refine wr1 3 fun K hK=>?_
 have ps:=i.o.cell;have fs:=i.o.frozen;go_simp;rw[store3_put i.o];clear ps fs;obtain⟨l,L⟩:=eX (#[.string x.nm,.string x.tx,.l x.A x.n x.n]:Array Value);have ag:=hI (ad.o.trans (putB_below J (w.heap.size) 25 l (by omega)));have ah:=hI (InK.grown (g:=w.heap.size) ae.o (fun b hb=>by omega) (putB_grown J (w.heap.size) 25 l));have ai:=hI (I.o.far (t':=25) ax l);have r:=hI (i.o.put l);obtain⟨a9,a⟩:=eX (putB J (w.heap.size) 25 l)
 try rw[←a]at ag
 try rw[←a]at ah
 try rw[←a]at ai
 try rw[←a]at r
 rw[←L];rw[←a];clear a hHeld;rw[L]at r;clear L
 refine hK.out _ _ ai.o.cz3 fun hHeld=>?_
 clear hK K
 try simp only[Lj,Lk,Lq]
 refine tkW 4 ?_;refine tkW 5 ?_;refine wpAnyH_done (by kernel_rfl) ?_ _;have c:=r.o.cell;have E:=r.o.frozen;go_wp2;refine bodyPost_ret (v:= .tuple #[.agg #[.string x.nm,.string x.tx,.l x.A x.n x.n],.string x.nm,.b true]) (by simp[results,Tryz.results6,go_sem,c]) rfl ?_;exact⟨x,x.nm,true,rfl,D,hI (ah.o.mono (fun b hb=>by omega)),ag⟩
theorem knE_eq{z x:EnN}(h:z.pl=x.pl):z.nm=x.nm∧z.tx=x.tx∧z.kn=x.kn:=by
 have h1:z.nm.data.toList=x.nm.data.toList:=congrArg En.nm h;have h2:z.tx.data.toList=x.tx.data.toList:=congrArg En.tx h;have h3:z.kn.map (fun s=>s.data.toList)=x.kn.map (fun s=>s.data.toList):=congrArg En.kn h;refine⟨bytes_ext9 h1,bytes_ext9 h2,?_⟩;exact List.map_inj_right (fun a b e=>bytes_ext9 e) |>.1 h3
theorem libraryTexts_any(k:Nat)(s:ByteArray)(w:World)(hk:k<256)(hR:RX w)(hX:FX w):Calls Tryz.prog 3 #[.int .u8 k,.string s] w (Ret (.b true) w):=by
 have O:=hI hR;have P:=hI hX;clear hR hX;have Q:=hI (Below.refl w.heap.size w)
 go_in
 go_wp2_with fail;refine(awake51_any w O.o P.o).mono ?_;rintro e ww1 ⟨rfl,R⟩;have S:=Q.o.t R;go_wp2_with fail;refine(pick_any k s ww1 hk).mono ?_;rintro e ww2 ⟨x,n,ok,rfl,m,T,U⟩;have V:=S.o.t U;go_upto_region 4 with(fail);generalize hw9:World.alloc _ _=ww3;obtain⟨C,W⟩:=gn1 hw9;clear hw9;have X:=V.o.t C;go_wp2_with fail;refine(names_any ww3).mono ?_;rintro e ww4 ⟨vn,Y,rfl,D,Z,o⟩;have aa:=X.o.t o;obtain⟨An,cn,ad,_,_,_,E⟩:=D.o.rd;subst ad;have ae:=hI E;clear E D;go_wp2_with fail;refine(all_any ww4).mono ?_;rintro e ww5 ⟨ga,za,rfl,ah,i⟩;have ai:=aa.o.t i;go_wp2_with fail;refine(eqn_any An cn Y ga _ za ww5 (ae.o.below i.o) ah.o Z.o).mono ?_;rintro e ww6 ⟨rfl,p⟩;have aj:=ai.o.t p;obtain⟨F,G⟩:=eX ((fE n.data.toList).2);have q:=hI G.symm;clear G;go_wp2_with fail;refine(get_any n ww6).mono ?_;rw[q.o];rintro e ww7 ⟨z,rfl,H,I,u⟩;have J:=aj.o.t u;have v:=hI (((((T.o.below C.o).below o.o).below i.o).below p.o).below u.o)
 cases ok with
 | false=>
  obtain⟨y,a⟩:F=7∧z.pl=⟨[],[],[]⟩:=by
   rcases m.o with⟨h,_⟩ | ⟨_,h⟩
   ·
    cases h
   exact⟨by rw[←q.o,h],by rw[H.o,h]⟩
  subst y;have c:z.nm=⟨#[]⟩:=bytes_ext9 (congrArg En.nm a);have d:z.tx=⟨#[]⟩:=bytes_ext9 (congrArg En.tx a)
  have g:z.n=0:=by
   have j:z.kn.map (fun s=>s.data.toList)=[]:=congrArg En.kn a;have b:=I.o.r.1;rw[List.map_eq_nil_iff]at j;rw[j]at b
   simpa using b.symm
  dsimp only
  rw[c,d,g];clear c d g a;go_upto_region 8 with(fail);generalize hw9:World.alloc _ _=ww8;obtain⟨ak,al⟩:=gn1 hw9;clear hw9;have L:=al.o.cell;go_wp2;go_ret
  exact⟨ret_bool (by simp),(J.o.t ak)⟩
 | true=>
  obtain⟨y,a⟩:F=0∧z.pl=x.pl:=by
   rcases m.o with⟨_,h⟩ | ⟨h,_⟩
   ·
    exact⟨by rw[←q.o,h],by rw[H.o,h]⟩
   cases h
  subst y;obtain⟨c,d,g⟩:=knE_eq a;have B:=hI (show Rd ww7 1 z.A z.n (x.kn.map Value.string)by rw[←g];exact I.o.r)
  have M:=hI (show z.n=x.n by
   have j:=B.o.1;have b:=v.o.r.1;rw[List.length_map]at j b
   omega)
  dsimp only
  rw[c,d,M.o];rw[M.o]at B
  have am:x.n≤1000:=by
   rcases m.o with⟨_,h⟩ | ⟨h,_⟩
   ·
    have N:=fE_mem (s:=n.data.toList) (by rw[h]);rw[h]at N;have h6:(x.kn.map fun s=>s.data.toList).length≤2:=kn_len _ N;have b:=v.o.r.1;rw[List.length_map]at h6 b
    omega
   cases h
  clear c d g a;go_upto_region 8 with(fail);generalize hw9:World.alloc _ _=ww9;obtain⟨l,ao⟩:=gn1 hw9;clear hw9;have ap:=J.o.t l;have L:=ao.o.cell;have ce:=(((((W.o.belowW o.o).belowW i.o).belowW p.o).belowW u.o).belowW l.o).cell;go_wp2_with fail;refine(seq_any z.A x.n x.n x.A x.n x.kn ww9 (B.o.below l.o) (v.o.below l.o).r am).mono ?_;rintro e ww10 ⟨rfl,ar⟩;clear L ce;go_wp2;go_ret;exact⟨ret_bool (by simp),(ap.o.t ar)⟩
