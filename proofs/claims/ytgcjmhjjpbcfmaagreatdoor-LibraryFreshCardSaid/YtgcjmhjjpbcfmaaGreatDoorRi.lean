import Derived.Test.YtgcjmhjjpbcfmaaGreatDoorPbF
import Derived.Test.YtgcjmhjjpbcfmaaGreatDoorRh
set_option linter.unusedVariables false
open List renaming setIfInBounds_toArray → Lj,set_cons_zero → Lk,set_cons_succ → Lq,getElem_toArray → Ly,getElem_cons_zero → Lz,getElem_cons_succ → Lv
set_option maxHeartbeats 4000000
set_option maxRecDepth 100000
namespace Go.Proofs.YtgcjmhjjpbcfmaaGreatDoor
open Go.RowKit Go.Fl Go.Fl.Lx Go.Fl.Nm Go.Fl.Fm Go.Fl.Rt Go.Fl.Pa
theorem all_map_ok{Z Y:Type}(f:Z→Y)(p:Z→Bool)(q:Y→Bool)(zs:List Z)(h:∀z∈zs,p z=q (f z)):zs.all p=(zs.map f).all q:=by
 induction zs with
 | nil=>rfl
 | cons z zs ih=>
  rw[List.all_cons,List.map_cons,List.all_cons,h z (by simp),ih (fun y hy=>h y (by simp[hy]))]
theorem DcN.ok_pl(x:DcN):x.ok=x.pl.ok:=rfl
theorem EqN.ok_pl(x:EqN):x.ok=x.pl.ok:=rfl
theorem dec_cast(n m:Nat):decide ((n:Int)≤(m:Int))=decide (n≤m):=by
 by_cases h:n≤m
 ·
  rw[decide_eq_true h,dT]
 rw[decide_eq_false h,dF]
theorem EdN.ok_pl{w:World}{x:EdN}(h:InG w x):x.ok=x.pl.ok:=by
 unfold EdN.ok EdP.ok EdN.dirB EdN.pl;simp only;rw[all_map_ok EqN.pl EqN.ok EqP.ok x.rs (fun z _=>EqN.ok_pl z),List.length_map,h.hr.hl]
 congr 3
 rw[←dec_cast]
 rfl
theorem MdN.ok_pl{w:World}{x:MdN}(h:InM w x):x.ok=x.pl.ok:=by
 unfold MdN.ok MdP.ok MdN.pl;simp only;rw[all_map_ok EqN.pl EqN.ok EqP.ok x.fl (fun z _=>EqN.ok_pl z),all_map_ok EdN.pl EdN.ok EdP.ok x.ed (fun z hz=>EdN.ok_pl (h.he.hi z hz)),List.length_map,List.length_map,h.hf.hl,h.he.hl,←dec_cast,←dec_cast]
 rfl
theorem PbN.ok_pl{w:World}{x:PbN}(h:InP w x):x.ok=x.pl.ok:=by
 unfold PbN.ok PbP.ok PbN.sz PbN.pl;simp only;rw[all_map_ok DcN.pl DcN.ok DcP.ok x.st (fun z _=>DcN.ok_pl z),all_map_ok DcN.pl DcN.ok DcP.ok x.pa (fun z _=>DcN.ok_pl z),all_map_ok MdN.pl MdN.ok MdP.ok x.ms (fun z hz=>MdN.ok_pl (h.hm.hi z hz)),List.length_map,List.length_map,List.length_map,h.hs.hl,h.hp.hl,h.hm.hl]
structure InXP (B:Nat) (w:World) (T:PbP) (v:PbN):Prop where
  pl:v.pl=T
  z:PzP (fun b=>B≤b) w v
theorem InXP.belowW{B:Nat}{w w':World}{T:PbP}{v:PbN}(h:InXP B w T v)(hb:Below w.heap.size w w'):InXP B w' T v:=⟨h.pl,pzP.mv h.z (fun b _ e=>by cases e) (grown_none (Nat.le_refl _) hb)⟩
theorem InXP.b9{B:Nat}{w w':World}{T:PbP}{v:PbN}(h:InXP B w T v)(hb:Go.RowKit.Hid (Go.RowKit.Below w.heap.size w w')):Go.RowKit.Hid (InXP B w' T v):=hI (InXP.belowW h hb.o)
theorem InXP.far{B r:Nat}{w:World}{T:PbP}{v:PbN}(h:InXP B w T v)(hr:r<B)(t:TypeId)(V:Array Value):InXP B (putB w r t V) T v:=⟨h.pl,pzP.mv h.z (fun b hb e=>by injection e with e;omega) (putB_grown w r t V)⟩
theorem InXP.weaken{B C:Nat}{w:World}{T:PbP}{v:PbN}(h:InXP B w T v)(hC:C≤B):InXP C w T v:=⟨h.pl,pzP.weaken h.z (fun b hb=>Nat.le_trans hC hb)⟩
theorem InXP.ok{B:Nat}{w:World}{T:PbP}{v:PbN}(h:InXP B w T v):v.ok=T.ok:=by rw[←h.pl];exact PbN.ok_pl h.z.toP
structure InXR (B:Nat) (w:World) (T v:RgP):Prop where
  pl:v=T
theorem InXR.belowW{B:Nat}{w w':World}{T v:RgP}(h:InXR B w T v)(hb:Below w.heap.size w w'):InXR B w' T v:=⟨h.pl⟩
theorem InXR.b9{B:Nat}{w w':World}{T v:RgP}(h:InXR B w T v)(hb:Go.RowKit.Hid (Go.RowKit.Below w.heap.size w w')):Go.RowKit.Hid (InXR B w' T v):=hI (InXR.belowW h hb.o)
theorem InXR.far{B r:Nat}{w:World}{T v:RgP}(h:InXR B w T v)(hr:r<B)(t:TypeId)(V:Array Value):InXR B (putB w r t V) T v:=⟨h.pl⟩
theorem InXR.weaken{B C:Nat}{w:World}{T v:RgP}(h:InXR B w T v)(hC:C≤B):InXR C w T v:=⟨h.pl⟩
theorem pst4{w:World}{g:Nat}{t:TypeId}{a b c d:Value}(hB:Blk w g t #[a,b,c,d])(a' b' c' d':Value):
 (((w.setCell ⟨g,0,none⟩ a').setCell ⟨g,1,none⟩ b').setCell ⟨g,2,none⟩ c').setCell ⟨g,3,none⟩ d'=putB w g t #[a',b',c',d']:=by
 rw[hB.setCell_eq 0 a',(hB.put _).setCell_eq 1 b',putB_putB,(hB.put _).setCell_eq 2 c',putB_putB,(hB.put _).setCell_eq 3 d',putB_putB]
 rfl
def Problem1P(g:Nat)(A:Option Addr)(len cap:Nat)(ts:List Tok)(bx:Nat)(r:PR PbP)(w:World)(e:Ending)(w':World):Prop:=
  match r with
  | .ok T k1=>∃(v:PbN) (w1:World),e= .returned (.bool (PbP.ok T))∧Hid (Blk w' bx 44 #[.slice v.A v.n v.c,.slice v.B v.m v.d,.slice v.C v.k v.e,.int .i64 v.t,.int .i64 v.u])∧Hid (InXP w.heap.size w' T v)∧Hid (Env w1 g A len cap ts k1 0 w')∧Hid (Gr2 w w' g bx)
  | .bad ln co er=>e=pan ln co er∧Hid (Gr2 w w' g bx)
  | .out=>False
theorem e1_Problem_bad{g:Nat}{A:Option Addr}{len cap:Nat}{ts:List Tok}{bx ln co er:Nat}{w w':World}(h:Hid (Gr2 w w' g bx)):Problem1P g A len cap ts bx (.bad ln co er) w (pan ln co er) w':=⟨rfl,h⟩
theorem pProblem1{w0 w:World}{g:Nat}{A:Option Addr}{len cap:Nat}{ts:List Tok}(h:Env w0 g A len cap ts 0 0 w)(hR:RX w0)(hX:FX w0)(hD:DigTs ts)(bx:Nat)(hbx:bx<w0.heap.size)(hB:Blk w0 bx 44 #[.sn,.sn,.sn,.i 0,.i 0])
 (hA:0<len→∀b o,A=some ⟨b,o,none⟩→b≠bx):
 Calls Tryz.prog 24 #[.p g,.p bx] w (Problem1P g A len cap ts bx (probP nameP ts 0) w):=by
 have q:=hI (pProblem h (Nat.zero_le _) hR hX hD);have y:=prob_no (nm:=nameP) (ts:=ts) 0 (Nat.zero_le _);have D:=hI (hB.belowW h.b);have X:bx≠g:=(by have:=h.lo;omega);have Y:=hI (show some bx≠some g from fun e=>X (Option.some.inj e));have Z:bx<w.heap.size:=Blk.lt D.o;obtain⟨r,E⟩:=eX (probP nameP ts 0);rw[←E]at q y ⊢;have HA:=hI hA;clear h hB hR hX E hA
 cases r with
 | out=>exact(y rfl).elim
 | bad ln co er=>
  go_in
  go_wp2_with fail;refine q.o.mono ?_;rintro e w1 ⟨rfl,i⟩;go_wp2_with fail
  exact⟨rfl,e1_Problem_bad (hI (Gr2.of (r:=bx) i.o))⟩
 | ok T k1=>
  go_in
  go_wp2_with fail;refine q.o.mono ?_;rintro e w1 ⟨⟨v,rfl,F,G⟩,i,ab⟩;have ac:=hI (show InXP w.heap.size w1 T v from⟨F,G.o⟩);clear F G;have s:=hI (D.o.grown i.o Y.o);obtain⟨H,I,J,L,M,N,O,P,Q,R⟩:=s.o.all5;go_upto_region 2 with(fail);rw[pst5 s.o];obtain⟨a,x⟩:=eX (#[.l v.A v.n v.c,.l v.B v.m v.d,.l v.C v.k v.e,.i v.t,.i v.u]:Array Value);have j:=hI (s.o.put a);have S:=hI (ab.o.store hbx HA.o 44 a);have l:=hI (ac.o.far Z 44 a);have U:=hI (Gr2.put (Gr2.of (r:=bx) i.o) 44 a);obtain⟨V,W⟩:=eX (putB w1 bx 44 a);rw[←x];rw[←W]at j S l U ⊢;clear W H I J L M N O P Q R;rw[x]at j;clear x;obtain⟨H,I,J,L,M,N,O,P,Q,R⟩:=j.o.all5;go_wp2_with fail;refine(show Calls Tryz.prog 26 #[.agg #[.l v.A v.n v.c,.l v.B v.m v.d,.l v.C v.k v.e,.i v.t,.i v.u]] V _ from tproblem_p v V l.o.z.toP).mono ?_;rintro e w3 ⟨rfl,p⟩;go_wp2;go_ret;exact⟨v,_,by rw[←l.o.ok];rfl,j.o.b9 p,l.o.b9 p,S.o.b9 p,hI (U.o.tr p.o)⟩
def probR(l:List UInt8):(Nat×Nat×Nat)×Option PbP:=runR l (fun ts=>probP nameP ts 0) PbP.ok
def GotPb(o:Option PbP)(bx:Nat)(w w':World):Prop:=∃T v,o=some T∧Hid (Blk w' bx 44 #[.l v.A v.n v.c,.l v.B v.m v.d,.l v.C v.k v.e,.i v.t,.i v.u])∧Hid (InXP w.heap.size w' T v)
theorem pRunProblem(s:ByteArray)(w:World)(hs:s.size≤maxLen)(bx:Nat)(hB:Blk w bx 44 #[.sn,.sn,.sn,.i 0,.i 0])(hR:RX w)(hX:FX w):
 Calls Tryz.prog 23 #[.string s,.func (.func 24) #[] #[.p bx]] w (RunP (GotPb (probR s.data.toList).2 bx) bx (probR s.data.toList).1 w):=by
 have c6:∀(fn:Fn) (first H:Array Value) (w:World),(Instr.makeFunc fn first H).run Tryz.prog w= .ok (.func fn first H) w:=fun _ _ _ _=>rfl
 have cn:=hI hB;have HR:=hI hR;have HX:=hI hX;obtain⟨E,a9⟩:=eX (probR s.data.toList);have ap:=hI a9;rw[←a9];have cr:bx<w.heap.size:=Blk.lt hB;clear hB hR hX a9
 go_enter_defers Tryz.func23,Tryz.ntmps23
 go_upto_region 1 with(fail);generalize hw1:World.alloc _ _=w1;obtain⟨O1,A1,B1⟩:=gn2 hw1;clear hw1;have c7:w.heap.size+1<w1.heap.size:=B1.o.lt;have c8:s.size≤maxLen:=hs;go_wp2_with fail;refine(split_any s w1 hs).mono ?_;rintro e w2 ⟨W,X⟩;have O2:=hI (show Below w.heap.size w w2 from O1.o.trans (W.mono O1.o.size));have N:=hI (A1.o.belowW W);have B2:=hI (B1.o.belowW W);have c9:=W.size;have I:w.heap.size≠w.heap.size+1:=(by omega);have Y:w.heap.size+1≠w.heap.size:=(by omega);have ar:bx≠w.heap.size:=(by omega);have au:bx≠w.heap.size+1:=(by omega);clear W
 cases hl:lexRes s.data.toList with
 | error p=>
  obtain⟨m,n,c⟩:=p;have ct:=(lexRes_err hl).1;have Z:¬c=0:=ct;rw[hl]at X;simp only at X;have j:=hI (show E=((m,n,c),none)by rw[ap.o];unfold probR runR;rw[hl]);subst X;clear hl ap;have d1:(((c:Nat):Int)!=0)=true:=(by rw[bne_iff_ne];omega);obtain⟨d,O,i,P⟩:=N.o.all2;obtain⟨a,y⟩:=B2.o.all1;go_upto_region 2 with(fail);rw[pst2 N.o];have k:=hI (B2.o.far (t':=63) Y #[.i (m:Nat),.i (n:Nat)]);rw[pst1 k.o];have A3:=hI ((N.o.put #[.i (m:Nat),.i (n:Nat)]).far (t':=34) I #[.i (c:Nat)]);have F:=hI (k.o.put #[.i (c:Nat)]);have bu:=hI (grown_new (grown_new (grown_of (some bx) O2.o) (Nat.le_refl _) 63 #[.i (m:Nat),.i (n:Nat)]) (Nat.le_succ _) 34 #[.i (c:Nat)]);obtain⟨z,J⟩:=eX (putB (putB w2 w.heap.size 63 #[.i (m:Nat),.i (n:Nat)]) (w.heap.size+1) 34 #[.i (c:Nat)]);rw[←J]at A3 F bu ⊢;clear J k;clear d O i P a y;obtain⟨a,y⟩:=F.o.all1;go_upto_region 3 with(fail);clear a y;refine wp_norm ?_;have av:=hI (below_dr z);have Q:=A3.o.b9 av;have bb:=F.o.b9 av;have bv:=hI (grown_tr bu.o (grown_of (some bx) av.o))
  refine wp_region_held_drew (S:=fun w'=>cz2 w' w.heap.size (.i (m:Nat)) (.i (n:Nat))∧w'.cell? ⟨w.heap.size+1,0,none⟩=some (.i (c:Nat))) (by kernel_rfl) ⟨Q.o.cz2,bb.o.cell 0⟩ fun hHeld=>?_
  obtain⟨cu,G⟩:=eX (z.drew);rw[←G]at av Q bb bv hHeld ⊢;clear G;refine tkW 0 ?_;refine tkW 1 ?_
  refine wr1 2 fun K hK=>?_
  have ps:=Q.o.cell;have fs:=Q.o.frozen;go_simp;rw[pst2 Q.o];clear ps fs;obtain⟨aw,be⟩:=eX (#[.i (m:Nat),.i (n:Nat)]:Array Value);have R:=hI (bb.o.far (t':=63) Y aw);have bw:=hI (grown_new bv.o (Nat.le_refl _) 63 aw);have ax:=hI (Q.o.put aw);obtain⟨cv,u⟩:=eX (putB cu (w.heap.size) 63 aw)
  try rw[←u]at R
  try rw[←u]at bw
  try rw[←u]at ax
  rw[←be];rw[←u];clear u hHeld;rw[be]at ax;clear be
  refine hK.out _ _ ⟨ax.o.cz2,R.o.cell 0⟩ fun hHeld=>?_
  clear hK K
  try simp only[Lj,Lk,Lq]
  refine wr1 3 fun K hK=>?_
  have ps:=R.o.cell;have fs:=R.o.frozen;go_simp;rw[pst1 R.o];clear ps fs;have bz:=hI (grown_new bw.o (Nat.le_succ _) 34 #[.i (c:Nat)]);have bf:=hI (ax.o.far (t':=34) I #[.i (c:Nat)]);have bg:=hI (R.o.put #[.i (c:Nat)]);obtain⟨da,u⟩:=eX (putB cv (w.heap.size+1) 34 #[.i (c:Nat)])
  try rw[←u]at bz
  try rw[←u]at bf
  try rw[←u]at bg
  rw[←u];clear u hHeld
  refine hK.out _ _ ⟨bf.o.cz2,bg.o.cell 0⟩ fun hHeld=>?_
  clear hK K
  try simp only[Lj,Lk,Lq]
  refine wpAnyH_done (by kernel_rfl) ?_ _;obtain⟨d,_,i,_⟩:=bf.o.all2;obtain⟨a,_⟩:=bg.o.all1;go_wp2_with fail
  simp[bodyPostD,Leaves,results,Tryz.results23,go_sem,d,i,a]
  exact⟨by rw[j.o],bz,hI (fun h=>absurd h (by rw[j.o];exact Z))⟩
 | ok ts=>
  rw[hl]at X;obtain⟨v0,U,ho⟩:=X;obtain⟨hD,A,q,H,cw,cx,hT,b3⟩:=ts_of hl ho;have b4:=hI (show E=runR s.data.toList (fun ts=>probP nameP ts 0) PbP.ok from ap.o);have b5:=hI hl;have cy:=hI hT;have bh:=hI b3;have cz:=hI hD;subst U;subst cw;clear hl ap ho hT b3 cx hD;have c0:=hI (show 0<q→∀b o,A=some ⟨b,o,none⟩→b≠w.heap.size from fun h b o e=>by have:=bh.o h b o e;omega);have c1:=hI (show 0<q→∀b o,A=some ⟨b,o,none⟩→b≠w.heap.size+1 from fun h b o e=>by have:=bh.o h b o e;omega);have c2:=hI (show 0<q→∀b o,A=some ⟨b,o,none⟩→b≠bx from fun h b o e=>by have:=bh.o h b o e;omega);obtain⟨d,O,i,P⟩:=N.o.all2;obtain⟨a,y⟩:=B2.o.all1;go_upto_region 2 with(fail);rw[pst2 N.o];have k:=hI (B2.o.far (t':=63) Y #[.i 0,.i 0]);rw[pst1 k.o];have A3:=hI ((N.o.put #[.i 0,.i 0]).far (t':=34) I #[.i 0]);have F:=hI (k.o.put #[.i 0]);have b6:=hI (((cn.o.belowW O2.o).far (t':=63) ar #[.i 0,.i 0]).far (t':=34) au #[.i 0]);have O3:=hI ((O2.o.trans (putB_below w2 w.heap.size 63 #[.i 0,.i 0] (Nat.le_refl _))).trans (putB_below (putB w2 w.heap.size 63 #[.i 0,.i 0]) (w.heap.size+1) 34 #[.i 0] (Nat.le_succ _)));have b7:=hI ((cy.o.put c0.o 63 #[.i 0,.i 0]).put c1.o 34 #[.i 0]);obtain⟨z,J⟩:=eX (putB (putB w2 w.heap.size 63 #[.i 0,.i 0]) (w.heap.size+1) 34 #[.i 0]);rw[←J]at A3 F b6 O3 b7 ⊢;clear J k;clear d O i P a y;obtain⟨a,y⟩:=F.o.all1;go_upto_region 6 with(fail)
  clear a y;obtain⟨w4,az⟩:=eX (z.alloc (Obj.cells #[.l A q H,.i 0,.i 0] 124));have bj:=hI (show Env z z.heap.size A q H ts 0 0 w4 by rw[az];exact Env.at0 b7.o);have bk:=hI (show Below z.heap.size z w4 by rw[az];exact below_box _ _);rw[←az];clear az;have A4:=A3.o.b9 bk;have B4:=F.o.b9 bk;have O4:=O3.o.t bk;have J:w.heap.size+1<z.heap.size:=F.o.lt;have HK:=hI (pProblem1 bj.o (HR.o.belowW O3.o) (HX.o.belowW O3.o) cz.o bx (Nat.lt_trans cr (by omega)) b6.o c2.o);obtain⟨g,hg⟩:=eX (z.heap.size);rw[←hg]at bj HK J ⊢;have cd:w.heap.size≠g:=(by omega);have ce:w.heap.size+1≠g:=(by omega);clear hg;have dc:g<w4.heap.size:=bj.o.gl;obtain⟨r,hr⟩:=eX (probP nameP ts 0);have x:=hI (show E=runS ts PbP.ok r by rw[b4.o];unfold runR;rw[b5.o,hr]);rw[←hr]at HK;have c3:=hI hr;clear hr b4 b5
  cases r with
  | out=>
   go_wp2_with fail;refine HK.o.mono ?_;rintro e w5 U
   exact U.elim
  | bad m n c=>
   have j:=hI (show E=((m,n,c),none)from x.o);have Z:¬c=0:=errat_ne (prob_eb (nm:=nameP) (ts:=ts) 0 m n c c3.o.symm);clear x;go_wp2_with fail;refine HK.o.mono ?_;rintro e w5 ⟨rfl,L⟩;go_wp2_with fail;have GW:=hI (gr2_w O4.o (by omega) L.o);refine leaves_cons (f:=51) (args:=#[.p w.heap.size,.pointer (some ⟨w.heap.size+1,0,none⟩)]) (by simp) (by simp[go_sem]) ?_;refine(run1_panic w.heap.size (w.heap.size+1) 0 0 0 m n c [] w5 (Blk.gr2 A4.o L.o cd (Ne.symm ar)) (Blk.gr2 B4.o L.o ce (Ne.symm au)) I).mono ?_;rintro e u' w6 ⟨rfl,rfl,bl,bm,bn⟩;obtain⟨d,_,i,_⟩:=bl.o.all2;obtain⟨a,_⟩:=bm.o.all1
   simp[Leaves,settle,results,Tryz.results23,go_sem,d,i,a]
   exact⟨(by rw[j.o];try rfl),hI (gr2_new GW.o (Nat.le_refl _) (Nat.le_succ _) bn.o),hI (fun h=>absurd h (by rw[j.o];exact Z))⟩
  | ok T k1=>
   go_wp2_with fail;refine HK.o.mono ?_;rintro e w5 ⟨v,wb,rfl,a1,a2,ad,L⟩;have A5:=hI (Blk.gr2 A4.o L.o cd (Ne.symm ar));have B5:=hI (Blk.gr2 B4.o L.o ce (Ne.symm au));have a5:=hI (gr2_w O4.o (by omega) L.o);have cf:=hI ad.o.t.hl
   by_cases hlt:k1<q
   ·
    have bo:k1<ts.length:=(by rw[cf.o];exact hlt);have j:=hI (show E=(((tk ts k1).line,(tk ts k1).col,3),none)from x.o.trans (if_pos bo));have Z:¬(3:Nat)=0:=(by decide);have d1:decide ((k1:Int)<(q:Int))=true:=dT;have d2:decide (k1<q)=true:=decide_eq_true hlt;have cg:panU ts k1=pan (tk ts k1).line (tk ts k1).col 3:=(by unfold panU;rw[if_neg (by omega)]);have ch:=hI cg;obtain⟨m,ci⟩:=eX ((tk ts k1).line);obtain⟨n,cj⟩:=eX ((tk ts k1).col);rw[←ci,←cj]at j ch;clear x cg ci cj;go_upto_region 7 with(fail);refine wp_norm ?_;have l:=hI (below_dr w5);have ae:=A5.o.b9 l;have af:=B5.o.b9 l;have ag:=a1.o.b9 l;have ah:=a2.o.b9 l;have B:=ad.o.b9 l;have ai:=hI (grown_tr a5.o (grown_of (some bx) l.o))
    refine wp_region_held_drew (S:=fun w'=>w'.cell? ⟨g,0,none⟩=some (.l A q H)∧w'.cell? ⟨g,1,none⟩=some (.i (k1:Nat))) (by kernel_rfl) ⟨Blk.cell B.o.p 0,Blk.cell B.o.p 1⟩ fun hHeld=>?_
    obtain⟨bp,G⟩:=eX (w5.drew);rw[←G]at l ae af ag ah B ai hHeld ⊢;clear G;refine tkW 0 ?_;refine tkW 1 ?_;refine tkW 2 ?_;refine tkW 3 ?_;refine tkW 4 ?_;refine tkW 5 ?_;refine tkW 6 ?_;refine tkW 7 ?_;refine tkW 8 ?_;refine tkW 9 ?_;refine wpAnyH_done (by kernel_rfl) ?_ _;go_wp2_with fail;have D:=ae;have M:=af;have a6:=ag;have a7:=ah;have a8:=B;have V:=ai;clear A5 B5 a1 a2 ad a5;obtain⟨w6,aj⟩:=eX (bp);rw[←aj]at D M a6 a7 a8 V ⊢;clear aj;refine a8.o.unx.mono ?_;rintro e w7 ⟨U,bq⟩;rw[ch.o]at U;subst U;go_wp2_with fail;refine leaves_cons (f:=51) (args:=#[.p w.heap.size,.pointer (some ⟨w.heap.size+1,0,none⟩)]) (by simp) (by simp[go_sem]) ?_;refine(run1_panic w.heap.size (w.heap.size+1) 0 0 0 m n 3 [] w7 (D.o.belowW bq.o) (M.o.belowW bq.o) I).mono ?_;rintro e u' w6 ⟨rfl,rfl,bl,bm,bn⟩;obtain⟨d,_,i,_⟩:=bl.o.all2;obtain⟨a,_⟩:=bm.o.all1
    simp[Leaves,settle,results,Tryz.results23,go_sem,d,i,a]
    exact⟨(by rw[j.o];try rfl),hI (gr2_new (grown_tr V.o (grown_of (some bx) bq.o)) (Nat.le_refl _) (Nat.le_succ _) bn.o),hI (fun h=>absurd h (by rw[j.o];exact Z))⟩
   have bo:¬k1<ts.length:=(by rw[cf.o];exact hlt);have x:=hI (show E=(if PbP.ok T then((0,0,0),some T)else((0,0,5),some T))from x.o.trans (if_neg bo));have d1:decide ((k1:Int)<(q:Int))=false:=dF;have d2:decide (k1<q)=false:=decide_eq_false hlt;obtain⟨b,hb⟩:=eX (PbP.ok T);rw[←hb]at x ⊢;clear hb;go_upto_region 7 with(fail);refine wp_norm ?_;have l:=hI (below_dr w5);have ae:=A5.o.b9 l;have af:=B5.o.b9 l;have ag:=a1.o.b9 l;have ah:=a2.o.b9 l;have B:=ad.o.b9 l;have ai:=hI (grown_tr a5.o (grown_of (some bx) l.o))
   refine wp_region_held_drew (S:=fun w'=>w'.cell? ⟨g,0,none⟩=some (.l A q H)∧w'.cell? ⟨g,1,none⟩=some (.i (k1:Nat))) (by kernel_rfl) ⟨Blk.cell B.o.p 0,Blk.cell B.o.p 1⟩ fun hHeld=>?_
   obtain⟨bp,G⟩:=eX (w5.drew);rw[←G]at l ae af ag ah B ai hHeld ⊢;clear G;refine tkW 0 ?_;refine tkW 1 ?_;refine tkW 2 ?_;refine tkW 3 ?_;refine tkW 4 ?_;refine tkW 5 ?_;refine tkW 6 ?_;refine tkW 7 ?_;refine tkW 8 ?_;refine tkW 9 ?_;refine wpAnyH_done (by kernel_rfl) ?_ _;go_upto_region 9 with(fail);have D:=ae;have M:=af;have a6:=ag;have a7:=ah;have a8:=B;have V:=ai;clear A5 B5 a1 a2 ad a5;obtain⟨w6,aj⟩:=eX (bp);rw[←aj]at D M a6 a7 a8 V ⊢;clear aj;obtain⟨d,O,i,P⟩:=D.o.all2;obtain⟨a,y⟩:=M.o.all1
   cases b with
   | false=>
    have j:=hI (show E=((0,0,5),some T)from x.o);clear x;go_wp2;rw[pst2 D.o];have k:=hI (M.o.far (t':=63) Y #[.i 0,.i 0]);rw[pst1 k.o];have A7:=hI ((D.o.put #[.i 0,.i 0]).far (t':=34) I #[.i 5]);have B7:=hI (k.o.put #[.i 5]);have an:=hI (grown_new (grown_new V.o (Nat.le_refl _) 63 #[.i 0,.i 0]) (Nat.le_succ _) 34 #[.i 5]);obtain⟨w7,ao⟩:=eX (putB (putB w6 w.heap.size 63 #[.i 0,.i 0]) (w.heap.size+1) 34 #[.i 5]);rw[←ao]at A7 B7 an ⊢;clear ao k;clear d O i P a y;refine leaves_cons (f:=51) (args:=#[.p w.heap.size,.pointer (some ⟨w.heap.size+1,0,none⟩)]) (by simp) (by simp[go_sem]) ?_;refine(run1_idle ⟨w.heap.size,0,none⟩ ⟨w.heap.size+1,0,none⟩ w7).mono ?_;rintro e u' w8 ⟨rfl,rfl,rfl⟩;obtain⟨d,_,i,_⟩:=A7.o.all2;obtain⟨a,_⟩:=B7.o.all1
    simp[Leaves,settle,results,Tryz.results23,go_sem,d,i,a]
    exact⟨(by rw[j.o];try rfl),an,hI (fun h=>absurd h (by rw[j.o];simp))⟩
   | true=>
    have j:=hI (show E=((0,0,0),some T)from x.o);clear x;go_wp2;rw[pst2 D.o];have k:=hI (M.o.far (t':=63) Y #[.i 0,.i 0]);rw[pst1 k.o];have A7:=hI ((D.o.put #[.i 0,.i 0]).far (t':=34) I #[.i 0]);have B7:=hI (k.o.put #[.i 0]);have cl:=hI ((a6.o.far (t':=63) ar #[.i 0,.i 0]).far (t':=34) au #[.i 0]);have an:=hI (grown_new (grown_new V.o (Nat.le_refl _) 63 #[.i 0,.i 0]) (Nat.le_succ _) 34 #[.i 0]);have cm:=hI (((a7.o.far (r:=w.heap.size) (by omega) 63 #[.i 0,.i 0]).far (r:=w.heap.size+1) (by omega) 34 #[.i 0]).weaken (C:=w.heap.size) (by omega));obtain⟨w7,ao⟩:=eX (putB (putB w6 w.heap.size 63 #[.i 0,.i 0]) (w.heap.size+1) 34 #[.i 0]);rw[←ao]at A7 B7 cl an cm ⊢;clear ao k;clear d O i P a y;refine leaves_cons (f:=51) (args:=#[.p w.heap.size,.pointer (some ⟨w.heap.size+1,0,none⟩)]) (by simp) (by simp[go_sem]) ?_;refine(run1_idle ⟨w.heap.size,0,none⟩ ⟨w.heap.size+1,0,none⟩ w7).mono ?_;rintro e u' w8 ⟨rfl,rfl,rfl⟩;obtain⟨d,_,i,_⟩:=A7.o.all2;obtain⟨a,_⟩:=B7.o.all1
    simp[Leaves,settle,results,Tryz.results23,go_sem,d,i,a]
    exact⟨(by rw[j.o];try rfl),an,hI (fun h=>⟨T,v,by rw[j.o],cl,cm⟩)⟩
def zPb:PbN:=⟨none,0,0,[],none,0,0,[],none,0,0,[],0,0⟩
def ProblemOut(r:(Nat×Nat×Nat)×Option PbP)(v:PbN)(w w':World):Prop:=(r.1.2.2≠0→v=zPb)∧(r.1.2.2=0→∃T,r.2=some T∧InXP w.heap.size w' T v)
def ProblemP(l:List UInt8)(w:World)(e:Ending)(w':World):Prop:=
  ∃v:PbN,e= .returned (.tuple #[v.val,.agg #[.i (probR l).1.1,.i (probR l).1.2.1],.i (probR l).1.2.2])∧Hid (Below w.heap.size w w')∧ProblemOut (probR l) v w w'
theorem pProblemX(s:ByteArray)(w:World)(hs:s.size≤maxLen)(hR:RX w)(hX:FX w):Calls Tryz.prog 15 #[.string s] w (ProblemP s.data.toList w):=by
 have bh:∀(fn:Fn) (first cap:Array Value) (w:World),(Instr.makeFunc fn first cap).run Tryz.prog w= .ok (.func fn first cap) w:=fun _ _ _ _=>rfl
 have HR:=hI hR;have HX:=hI hX;have KR:=hI (fun(w':World) (hB:Blk w' (w.heap.size+2) 44 #[.sn,.sn,.sn,.i 0,.i 0]) (hR':RX w') (hX':FX w')=>pRunProblem s w' hs (w.heap.size+2) hB hR' hX');unfold ProblemP;obtain⟨RR,al⟩:=eX (probR s.data.toList);rw[←al]at KR ⊢;clear hR hX al;obtain⟨⟨G,H,er⟩,o⟩:=RR;simp only at KR ⊢
 go_in
 go_upto_region 2 with(fail);obtain⟨I,J⟩:=eX (((w.alloc (Obj.cells #[.sn,.sn,.sn,.i 0,.i 0] 44)).alloc (Obj.cells #[.i 0,.i 0] 63)).alloc (Obj.cells #[.sn,.sn,.sn,.i 0,.i 0] 44));have O1:=hI (show Below w.heap.size w I by rw[J];exact((below_box _ _).trans ((below_box _ _).mono (by simp))).trans ((below_box _ _).mono (by simp;omega)));have A1:=hI (show Blk I w.heap.size 44 #[.sn,.sn,.sn,.i 0,.i 0]by rw[J];exact((Blk.new w 44 #[.sn,.sn,.sn,.i 0,.i 0]).belowW (below_box _ _)).belowW (below_box _ _));have B1:=hI (show Blk I (w.heap.size+1) 63 #[.i 0,.i 0]by rw[J];exact Blk.belowW (by have:=Blk.new (w.alloc (Obj.cells #[.sn,.sn,.sn,.i 0,.i 0] 44)) 63 #[.i 0,.i 0];simpa using this) (below_box _ _));have X1:=hI (show Blk I (w.heap.size+2) 44 #[.sn,.sn,.sn,.i 0,.i 0]by rw[J];exact(by have:=Blk.new ((w.alloc (Obj.cells #[.sn,.sn,.sn,.i 0,.i 0] 44)).alloc (Obj.cells #[.i 0,.i 0] 63)) 44 #[.sn,.sn,.sn,.i 0,.i 0];simpa using this));rw[←J];clear J;have bi:w.heap.size+2<I.heap.size:=X1.o.lt;go_wp2_with fail;refine(KR.o I X1.o (HR.o.belowW O1.o) (HX.o.belowW O1.o)).mono ?_;rintro e w2 ⟨rfl,aa,a7⟩;have O2:=hI (below_grown O1.o (by omega) aa.o);have A2:=hI (A1.o.grown aa.o (by simp));have B2:=hI (B1.o.grown aa.o (by simp));have bj:=aa.o.size;go_upto_region 3 with(fail);generalize hw4:World.alloc _ _=w4;obtain⟨L,T4⟩:=gn1 hw4;clear hw4;have O4:=O2.o.t L;have A4:=A2.o.b9 L;have B4:=B2.o.b9 L;obtain⟨M,aq⟩:=eX (w2.heap.size);have bk:w.heap.size+2<M:=(by omega);rw[←aq]at T4 ⊢;clear aq;have ar:w.heap.size+1≠w.heap.size:=(by omega);have au:w.heap.size≠w.heap.size+1:=(by omega);have av:M≠w.heap.size:=(by omega);have aw:M≠w.heap.size+1:=(by omega);have bb:w.heap.size+2≠w.heap.size:=(by omega);have bc:w.heap.size+2≠w.heap.size+1:=(by omega)
 by_cases her:er=0
 ·
  obtain⟨T,v,hT,bd,be⟩:=a7.o her;subst her;have HT:=hI hT;clear hT;go_upto_region 5 with(fail);have b:=hI (below_dr w4);have g:=A4.o.b9 b;have N:=B4.o.b9 b;have j:=T4.o.b9 b;have O:=O4.o.t b;have af:=hI ((bd.o.belowW L.o).belowW b.o);have ay:=hI ((be.o.belowW L.o).belowW b.o)
  refine wp_region_held_drew (S:=fun w'=>cz2 w' M (.i (G:Nat)) (.i (H:Nat))∧cz5 w' (w.heap.size+2) (.l v.A v.n v.c) (.l v.B v.m v.d) (.l v.C v.k v.e) (.i v.t) (.i v.u)) (by kernel_rfl) ⟨j.o.cz2,af.o.cz5⟩ fun hHeld=>?_
  obtain⟨P,Q⟩:=eX (w4.drew);rw[←Q]at b g N j O af ay hHeld ⊢;clear Q;refine tkW 0 ?_;refine tkW 1 ?_;refine tkW 2 ?_
  refine wr1 3 fun K hK=>?_
  have l:=g.o.cell;have p:=g.o.frozen;go_simp;rw[pst5 g.o];clear l p;obtain⟨q,ag⟩:=eX (#[.l v.A v.n v.c,.l v.B v.m v.d,.l v.C v.k v.e,.i v.t,.i v.u]:Array Value);have i:=hI (N.o.far (t':=44) ar q);have x:=hI (j.o.far (t':=44) av q);have R:=hI (O.o.trans (putB_below P w.heap.size 44 q (Nat.le_refl _)));have ah:=hI (af.o.far (t':=44) bb q);have az:=hI (ay.o.far (r:=w.heap.size) (by omega) 44 q);have D:=hI (g.o.put q);obtain⟨U,a⟩:=eX (putB P (w.heap.size) 44 q)
  try rw[←a]at i
  try rw[←a]at x
  try rw[←a]at R
  try rw[←a]at ah
  try rw[←a]at az
  try rw[←a]at D
  rw[←ag];rw[←a];clear a hHeld;rw[ag]at D;clear ag
  refine hK.out _ _ ⟨x.o.cz2,ah.o.cz5⟩ fun hHeld=>?_
  clear hK K
  try simp only[Lj,Lk,Lq]
  refine wr1 4 fun K hK=>?_
  have l:=i.o.cell;have p:=i.o.frozen;go_simp;rw[pst2 i.o];clear l p;obtain⟨E,ai⟩:=eX (#[.i (G:Nat),.i (H:Nat)]:Array Value);have V:=hI (x.o.far (t':=63) aw E);have W:=hI (R.o.trans (putB_below U (w.heap.size+1) 63 E (Nat.le_succ _)));have a0:=hI (ah.o.far (t':=63) bc E);have a1:=hI (az.o.far (r:=w.heap.size+1) (by omega) 63 E);have X:=hI (D.o.far (t':=63) au E);have F:=hI (i.o.put E);obtain⟨bg,a⟩:=eX (putB U (w.heap.size+1) 63 E)
  try rw[←a]at V
  try rw[←a]at W
  try rw[←a]at a0
  try rw[←a]at a1
  try rw[←a]at X
  try rw[←a]at F
  rw[←ai];rw[←a];clear a hHeld;rw[ai]at F;clear ai
  refine hK.out _ _ ⟨V.o.cz2,a0.o.cz5⟩ fun hHeld=>?_
  clear hK K
  try simp only[Lj,Lk,Lq]
  refine tkW 5 ?_;refine wpAnyH_done (by kernel_rfl) ?_ _;have z:=X.o.cell;have y:=F.o.cell;go_wp2;refine bodyPost_ret (v:= .tuple #[.agg #[.l v.A v.n v.c,.l v.B v.m v.d,.l v.C v.k v.e,.i v.t,.i v.u],.agg #[.i (G:Nat),.i (H:Nat)],.i 0]) (by simp[results,Tryz.results15,go_sem,z,y]) rfl ?_;exact⟨v,rfl,W,⟨fun h=>absurd rfl h,fun _=>⟨T,HT.o,a1.o.weaken (by omega)⟩⟩⟩
 have d1:(((er:Nat):Int)!=0)=true:=(by rw[bne_iff_ne];omega);go_upto_region 4 with(fail);have b:=hI (below_dr w4);have g:=A4.o.b9 b;have N:=B4.o.b9 b;have j:=T4.o.b9 b;have O:=O4.o.t b
 refine wp_region_held_drew (S:=fun w'=>cz2 w' M (.i (G:Nat)) (.i (H:Nat))) (by kernel_rfl) j.o.cz2 fun hHeld=>?_
 obtain⟨P,Q⟩:=eX (w4.drew);rw[←Q]at b g N j O hHeld ⊢;clear Q;refine tkW 0 ?_;refine tkW 1 ?_;refine tkW 2 ?_
 refine wr1 3 fun K hK=>?_
 have l:=g.o.cell;have p:=g.o.frozen;go_simp;rw[pst5 g.o];clear l p;obtain⟨Y,aj⟩:=eX (#[.sn,.sn,.sn,.i 0,.i 0]:Array Value);have i:=hI (N.o.far (t':=44) ar Y);have x:=hI (j.o.far (t':=44) av Y);have R:=hI (O.o.trans (putB_below P w.heap.size 44 Y (Nat.le_refl _)));have D:=hI (g.o.put Y);obtain⟨U,a⟩:=eX (putB P (w.heap.size) 44 Y)
 try rw[←a]at i
 try rw[←a]at x
 try rw[←a]at R
 try rw[←a]at D
 rw[←aj];rw[←a];clear a hHeld;rw[aj]at D;clear aj
 refine hK.out _ _ x.o.cz2 fun hHeld=>?_
 clear hK K
 try simp only[Lj,Lk,Lq]
 refine wr1 4 fun K hK=>?_
 have l:=i.o.cell;have p:=i.o.frozen;go_simp;rw[pst2 i.o];clear l p;obtain⟨Z,ak⟩:=eX (#[.i (G:Nat),.i (H:Nat)]:Array Value);have V:=hI (x.o.far (t':=63) aw Z);have W:=hI (R.o.trans (putB_below U (w.heap.size+1) 63 Z (Nat.le_succ _)));have X:=hI (D.o.far (t':=63) au Z);have F:=hI (i.o.put Z);obtain⟨bg,a⟩:=eX (putB U (w.heap.size+1) 63 Z)
 try rw[←a]at V
 try rw[←a]at W
 try rw[←a]at X
 try rw[←a]at F
 rw[←ak];rw[←a];clear a hHeld;rw[ak]at F;clear ak
 refine hK.out _ _ V.o.cz2 fun hHeld=>?_
 clear hK K
 try simp only[Lj,Lk,Lq]
 refine tkW 5 ?_;refine wpAnyH_done (by kernel_rfl) ?_ _;have z:=X.o.cell;have y:=F.o.cell;go_wp2;refine bodyPost_ret (v:= .tuple #[.agg #[.sn,.sn,.sn,.i 0,.i 0],.agg #[.i (G:Nat),.i (H:Nat)],.i (er:Nat)]) (by simp[results,Tryz.results15,go_sem,z,y]) rfl ?_;exact⟨zPb,rfl,W,⟨fun _=>rfl,fun h=>absurd h her⟩⟩
