import Derived.Test.YtgcjmhjjpbcfmaaGreatDoorRj
set_option linter.unusedVariables false
set_option linter.unusedSimpArgs false
set_option maxHeartbeats 4000000
set_option maxRecDepth 100000
namespace Go.Proofs.YtgcjmhjjpbcfmaaGreatDoor
open Go.RowKit Go.Fl Go.Fl.Nm Go.Fl.Lb
def fE(s:List UInt8):En×Int:=match ents.find? (fun e=>e.nm==s)with
  | some e=>(e,0)
  | none=>(⟨[],[],[]⟩,7)
def IxP(zs:List EnN)(s:ByteArray)(k:Int):Prop:=(k= -1∧∀z∈zs,(z.nm==s)=false)∨∃(j:Nat) (x:EnN),k=j∧zs[j]? =some x∧(x.nm==s)=true∧∀i y,i<j→zs[i]? =some y→(y.nm==s)=false
theorem find_at{α:Type}(p:α→Bool):∀(l:List α) (j:Nat) (x:α),l[j]? =some x→p x=true→(∀i y,i<j→l[i]? =some y→p y=false)→l.find? p=some x
 | [],j,x,h,_,_=>by cases h
 | y::l,0,x,h,hx,_=>by
  injection h with h;subst h
  rw[List.find?_cons,hx]
 | y::l,j+1,x,h,hx,hb=>by
  rw[List.find?_cons,hb 0 y (Nat.succ_pos _) rfl];exact find_at p l j x h hx (fun i z hi hz=>hb (i+1) z (Nat.succ_lt_succ hi) hz)
theorem IxP.fE{zs:List EnN}{s:ByteArray}{k:Int}(hz:zs.map EnN.pl=ents)(h:IxP zs s k):(k= -1∧fE s.data.toList=(⟨[],[],[]⟩,7))∨∃(j:Nat) (x:EnN),k=j∧zs[j]? =some x∧fE s.data.toList=(x.pl,0):=by
 have hp:∀z:EnN,(z.pl.nm==s.data.toList)=(z.nm==s):=by
  intro z;rw[Bool.eq_iff_iff,beq_iff_eq];exact(str_iff (s:=z.nm) (s':=s) rfl).symm
 have hf:ents.find? (fun e=>e.nm==s.data.toList)=(zs.find? (fun z=>z.nm==s)).map EnN.pl:=by
  rw[←hz,List.find?_map]
  congr 2
  funext z
  exact hp z
 rcases h with⟨h1,h2⟩ | ⟨j,x,h1,h2,h3,h4⟩
 ·
  refine .inl ⟨h1,?_⟩;unfold Go.Proofs.YtgcjmhjjpbcfmaaGreatDoor.fE;rw[hf,List.find?_eq_none.2 (fun z hm=>by rw[h2 z hm];decide)]
  rfl
 refine .inr ⟨j,x,h1,h2,?_⟩;unfold Go.Proofs.YtgcjmhjjpbcfmaaGreatDoor.fE;rw[hf,find_at _ zs j x h2 h3 h4]
 rfl
theorem EnN.cells_at{w:World}{b off:Nat}{x:EnN}(h:At w b off x.cells):b<w.heap.size∧w.cell? ⟨b,off,none⟩=some (.string x.nm)∧w.cell? ⟨b,off+1,none⟩=some (.string x.tx)∧w.cell? ⟨b,off+2,none⟩=some (.l x.A x.n x.n):=
 ⟨h.lt,h.c 0 _ rfl,h.c 1 _ rfl,h.c 2 _ rfl⟩
theorem InEs.at_{base:Nat}{w:World}{g:Nat}{zs:List EnN}(h:InEs base w g zs)(j:Nat)(hj:j<18):∃x,zs[j]? =some x∧InK (fun b=>base≤b) w x∧At w g (j*3) x.cells:=by
 obtain⟨b,o,x,hA,h1,h2,h3⟩:=InL.at_ (cells:=EnN.cells) (fun z=>rfl) h.l j hj;injection hA with hA;injection hA with e1 e2;subst e1 e2;rw[Nat.zero_add]at h3;exact⟨x,h1,h2,h3⟩
theorem InEs.len{base:Nat}{w:World}{g:Nat}{zs:List EnN}(h:InEs base w g zs):zs.length=18:=h.l.hl
theorem ixp_none{zs:List EnN}{s:ByteArray}(hl:zs.length=18)(h:∀i y,i<18→zs[i]? =some y→(y.nm==s)=false):IxP zs s (-1):=
 .inl ⟨rfl,fun z hz=>by obtain⟨i,hi,e⟩:=List.getElem_of_mem hz;exact h i z (by omega) (by rw[List.getElem?_eq_getElem hi,e])⟩
theorem ixp_next{zs:List EnN}{s:ByteArray}{j:Nat}{x:EnN}(hx:zs[j]? =some x)(hn:(x.nm==s)=false)(h:∀i y,i<j→zs[i]? =some y→(y.nm==s)=false):∀i y,i<j+1→zs[i]? =some y→(y.nm==s)=false:=fun i y hi hy=>by
 by_cases e:i=j
 ·
  subst e;rw[hx]at hy;injection hy with hy;subst hy;exact hn
 exact h i y (by omega) hy
def GeQ(v:EnN→Value)(r:En)(w:World)(e:Ending)(w':World):Prop:=∃x:EnN,e= .returned (v x)∧Hid (x.pl=r)∧Hid (InK (fun b=>w.heap.size≤b) w' x)∧Hid (Below w.heap.size w w')
def ze3:EnN:=⟨⟨#[]⟩,⟨#[]⟩,none,0,[]⟩
theorem ze3_in(P:Nat→Prop)(w:World):InK P w ze3:=⟨rd_nil _ _,(fun b o h=>by cases h),NF.nil _⟩
theorem InK.mono{P Q:Nat→Prop}{w:World}{x:EnN}(h:InK P w x)(hPQ:∀b,P b→Q b):InK Q w x:=⟨h.r,fun b o e=>hPQ b (h.p b o e),h.f⟩
theorem InK.grown{P:Nat→Prop}{w w':World}{x:EnN}{g:Nat}(h:InK P w x)(hP:∀b,P b→b≠g)(hg:w.grownBy w' (some g)):InK P w' x:=
 ⟨⟨h.r.1,fun hn=>by
  obtain⟨b,off,e,hb,hc⟩:=h.r.2 hn
  exact⟨b,off,e,Nat.lt_of_lt_of_le hb hg.size,fun j u hu=>by
   rw[←hc j u hu]
   exact World.cell?_of_block (hg.block b hb (fun q=>hP b (h.p b off e) (by injection q)))⟩⟩,h.p,h.f.mv (fun b o e q=>hP b (h.p b o e) (by injection q)) hg⟩
theorem get1_any(x:EnN)(s:ByteArray)(bp:Nat)(c:Bool)(w:World)(hp:Blk w bp 9 #[.string s])(hc:(x.nm==s)=c):
 Calls Tryz.prog 22 #[.agg #[.string x.nm,.string x.tx,.l x.A x.n x.n],.p bp] w (Ret (.b c) w):=by
 have HP:=hI hp;have hd:=str_beq _ _ _ hc;clear hp hc;have HL0:=hI (Below.refl w.heap.size w)
 go_in
 go_upto_region 1 with(fail);generalize hw9:World.alloc _ _=ww1;obtain⟨HB1,Nx1⟩:=gn1 hw9;clear hw9;have Z1l:=HL0.o.t HB1;have cx:=Nx1.o.cell;have cp:=(HP.o.belowW HB1.o).cell
 cases c with
 | false=>
  go_wp2;go_ret
  exact⟨rfl,Z1l⟩
 | true=>
  go_wp2;go_ret;exact⟨rfl,Z1l⟩
theorem gidx_any(g bp base:Nat)(zs:List EnN)(s:ByteArray)(w:World)(hz:InEs base w g zs)(hp:Blk w bp 9 #[.string s]):
 Calls Tryz.prog 21 #[.l (some ⟨g,0,none⟩) 18 18,.func (.func 22) #[] #[.p bp]] w (fun e w'=>∃k:Int,e= .returned (.i k)∧Hid (IxP zs s k)∧Hid (Below w.heap.size w w')):=by
 have p:=hI hz;have q:=hI hp;have r:=hI hz.len;clear hz hp
 go_in
 go_wp2
 go_loopg [8] 18 (fun k i wr=>∃j:Nat,i= .i j∧j≤18∧k=18-j∧Hid (∀i y,i<j→zs[i]? =some y→(y.nm==s)=false)∧Hid (Below w.heap.size w wr))
 case atStart=>exact⟨0,rfl,by omega,by omega,hI (fun i y h=>absurd h (by omega)),hI (Below.refl _ _)⟩
 obtain⟨j,rfl,D,rfl,b,a⟩:=hrel;have u:=a.o.size
 by_cases hlt:j<18
 ·
  obtain⟨x,d,v,l⟩:=(p.o.belowW a.o).at_ j hlt;have m:=hI d;obtain⟨E,F,G,H⟩:=EnN.cells_at l;clear d v l;have I:decide ((j:Int)<18)=true:=dT
  obtain⟨c,hc⟩:∃c,(x.nm==s)=c:=⟨_,rfl⟩
  have z:=hI (get1_any x s bp c wr (q.o.belowW a.o) hc);have n:=hI hc;clear hc;go_wp2_with fail;refine z.o.mono ?_;rintro e w2 ⟨rfl,B⟩;have o:=hI (a.o.trans (B.o.mono u))
  cases c with
  | false=>
   go_wp2
   go_roundg (18-(j+1))
   case measure=>omega
   case rel=>exact⟨j+1,by go_num,by omega,rfl,hI (ixp_next m.o n.o b.o),o⟩
  | true=>
   go_wp2;go_ret;exact⟨_,rfl,hI (.inr ⟨j,x,rfl,m.o,n.o,b.o⟩),o⟩
 have C:j=18:=(by omega);subst C;go_wp2;go_ret;exact⟨_,rfl,(hI (ixp_none r.o b.o)),a⟩
theorem get_any(s:ByteArray)(w:World):
 Calls Tryz.prog 11 #[.string s] w (GeQ (fun x=> .tuple #[.agg #[.string x.nm,.string x.tx,.l x.A x.n x.n],.i (fE s.data.toList).2]) (fE s.data.toList).1 w):=by
 obtain⟨R,y⟩:=eX (fE s.data.toList);have H:=hI y.symm;rw[←y];clear y;have T:=hI (Below.refl w.heap.size w)
 go_in
 go_upto_region 1 with(fail);generalize c:World.alloc _ _=ww1;obtain⟨U,V,I⟩:=gn2 c;clear c;have J:=T.o.t U;go_wp2_with fail;refine(entries_any ww1).mono ?_;rintro e ww2 ⟨g,L,rfl,M,z⟩;have W:=J.o.t z;go_wp2_with fail;refine(gidx_any g (w.heap.size) _ L s ww2 M.o (V.o.belowW z.o)).mono ?_;rintro e ww3 ⟨k,rfl,N,B⟩;have O:=W.o.t B;have d:=hI ((I.o.belowW z.o).belowW B.o);have C:=M.o.b9 B;have aa:w.heap.size+1<ww1.heap.size:=I.o.lt;have ab:w.heap.size≤ww1.heap.size:=J.o.size;have p:=hI (IxP.fE C.o.e N.o);clear N
 by_cases hk:k= -1
 ·
  have D:=hI (show R=(⟨[],[],[]⟩,7)by rw[←H.o];rcases p.o with h | ⟨j,x,h1,_⟩;exact h.2;omega);subst hk;clear p;have i:=d.o.cell;have l:=d.o.frozen;go_wp2;rw[store3_put d.o];obtain⟨q,E⟩:=eX (#[.string ⟨#[]⟩,.string ⟨#[]⟩,.sn]:Array Value);have a:=hI (d.o.put q);have m:=hI (O.o.trans (putB_below ww3 (w.heap.size+1) 33 q (by omega)));have o:=hI (InK.grown (P:=fun b=>ww1.heap.size≤b) (ze3_in _ _) (fun b hb=>by omega) (putB_grown ww3 (w.heap.size+1) 33 q));obtain⟨w9,c⟩:=eX (putB ww3 (w.heap.size+1) 33 q);rw[←E];rw[←c]at a m o ⊢;clear c i l;rw[E]at a;clear E;have i:=a.o.cell;have l:=a.o.frozen;refine bodyPost_ret (v:= .tuple #[.agg #[.string ⟨#[]⟩,.string ⟨#[]⟩,.sn],.i 7]) (by simp[results,Tryz.results11,go_sem,i]) rfl ?_;rw[D.o];exact⟨ze3,rfl,hI rfl,hI (o.o.mono (fun b hb=>by omega)),m⟩
 obtain⟨j,x,X,F,D⟩:∃(j:Nat) (x:EnN),k=j∧L[j]? =some x∧Hid (R=(x.pl,0)):=by
  rcases p.o with h | ⟨j,x,h1,h2,h3⟩
  ·
   exact absurd h.1 hk
  exact⟨j,x,h1,h2,hI (H.o.symm.trans h3)⟩
 subst X;clear p hk;have Y:j<18:=(by have h:=(List.getElem?_eq_some_iff.1 F).1;rw[C.o.len]at h;exact h);obtain⟨x',r,Q,S⟩:=C.o.at_ j Y;rw[F]at r;injection r with r;subst r;have Z:=hI Q;obtain⟨ad,c0,c1,c2⟩:=EnN.cells_at S;clear F Q S;have d0:decide ((j:Int)<0)=false:=dF;have ai:0≤(j:Int)∧(j:Int)<18:=(by omega);have i:=d.o.cell;have l:=d.o.frozen;go_wp2;rw[store3_put d.o];obtain⟨u,G⟩:=eX (#[.string x.nm,.string x.tx,.l x.A x.n x.n]:Array Value);have a:=hI (d.o.put u);have m:=hI (O.o.trans (putB_below ww3 (w.heap.size+1) 33 u (by omega)));have o:=hI (InK.grown Z.o (fun b hb=>by omega) (putB_grown ww3 (w.heap.size+1) 33 u));obtain⟨w9,c⟩:=eX (putB ww3 (w.heap.size+1) 33 u);rw[←G];rw[←c]at a m o ⊢;clear c i l;rw[G]at a;clear G;have i:=a.o.cell;have l:=a.o.frozen;refine bodyPost_ret (v:= .tuple #[.agg #[.string x.nm,.string x.tx,.l x.A x.n x.n],.i 0]) (by simp[results,Tryz.results11,go_sem,i]) rfl ?_;rw[D.o];exact⟨x,rfl,hI rfl,hI (o.o.mono (fun b hb=>by omega)),m⟩
theorem find_any(s:ByteArray)(w:World):
 Calls Tryz.prog 14 #[.string s] w (GeQ (fun x=> .tuple #[.agg #[.string x.nm,.string x.tx,.l x.A x.n x.n],.b (decide ((fE s.data.toList).2=0))]) (fE s.data.toList).1 w):=by
 obtain⟨R,C⟩:=eX (fE s.data.toList);have J:=hI C.symm;rw[←C];clear C;have V:=hI (Below.refl w.heap.size w)
 go_in
 go_upto_region 1 with(fail);generalize d:World.alloc _ _=ww1;obtain⟨W,L⟩:=gn1 d;clear d;have M:=V.o.t W;have ac:w.heap.size<ww1.heap.size:=L.o.lt;have ad:w.heap.size≤ww1.heap.size:=M.o.size;go_wp2_with fail;refine(all_any ww1).mono ?_;rintro e ww2 ⟨g,X,rfl,N,O⟩;have Y:=M.o.t O;have Z:=hI N.o.len;go_wp2
 go_loopg [5] 18 (fun k i wr=>∃j:Nat,i= .i j∧j≤18∧k=18-j∧Hid (∀i y,i<j→X[i]? =some y→(y.nm==s)=false)∧Hid (Below ww2.heap.size ww2 wr))
 case atStart=>exact⟨0,rfl,by omega,by omega,hI (fun i y h=>absurd h (by omega)),hI (Below.refl _ _)⟩
 obtain⟨j,rfl,hj,rfl,o,u⟩:=hrel;have Q:=Y.o.t u;have l:=hI ((L.o.belowW O.o).belowW u.o);have D:=N.o.b9 u
 by_cases hlt:j<18
 ·
  obtain⟨x,S,T,U⟩:=D.o.at_ j hlt;have E:=hI S;have aa:=hI T;obtain⟨af,c0,c1,c2⟩:=EnN.cells_at U;clear S T U;have n1:decide ((j:Int)<18)=true:=dT;have ak:0≤(j:Int)∧(j:Int)<18:=(by omega)
  obtain⟨c,hc⟩:∃c,(x.nm==s)=c:=⟨_,rfl⟩
  have hd:=str_beq _ _ _ hc;have F:=hI hc;clear hc
  cases c with
  | false=>
   go_wp2
   go_roundg (18-(j+1))
   case measure=>omega
   case rel=>exact⟨j+1,by go_num,by omega,rfl,hI (ixp_next E.o F.o o.o),u⟩
  | true=>
   have G:=hI (show R=(x.pl,0)by
    rcases IxP.fE D.o.e (.inr ⟨j,x,rfl,E.o,F.o,o.o⟩)with h | ⟨j',x',h1,h2,h3⟩
    ·
     have:=h.1;omega
    have e:j'=j:=(by omega);subst e;rw[E.o]at h2;injection h2 with h2;subst h2
    rw[←J.o,h3])
   clear o F;have m:=l.o.cell;have p:=l.o.frozen
   go_wp2;rw[store3_put l.o];obtain⟨z,H⟩:=eX (#[.string x.nm,.string x.tx,.l x.A x.n x.n]:Array Value);have a:=hI (l.o.put z);have q:=hI (Q.o.trans (putB_below wr (w.heap.size) 25 z (by omega)));have r:=hI (InK.grown aa.o (fun b hb=>by omega) (putB_grown wr (w.heap.size) 25 z));obtain⟨w9,d⟩:=eX (putB wr (w.heap.size) 25 z);rw[←H];rw[←d]at a q r ⊢;clear d m p;rw[H]at a;clear H;have m:=a.o.cell;have p:=a.o.frozen;refine bodyPost_ret (v:= .tuple #[.agg #[.string x.nm,.string x.tx,.l x.A x.n x.n],.b true]) (by simp[results,Tryz.results14,go_sem,m]) rfl ?_;rw[G.o];exact⟨x,rfl,hI rfl,hI (r.o.mono (fun b hb=>by omega)),q⟩
 have ab:j=18:=(by omega);subst ab
 have G:=hI (show R=(⟨[],[],[]⟩,7)by
  rcases IxP.fE D.o.e (ixp_none Z.o o.o)with h | ⟨j',x',h1,_⟩
  ·
   rw[←J.o,h.2]
  omega)
 clear o;have m:=l.o.cell;have p:=l.o.frozen;go_wp2;rw[store3_put l.o];obtain⟨B,I⟩:=eX (#[.string ⟨#[]⟩,.string ⟨#[]⟩,.sn]:Array Value);have a:=hI (l.o.put B);have q:=hI (Q.o.trans (putB_below wr (w.heap.size) 25 B (by omega)));have r:=hI (InK.grown (P:=fun b=>ww1.heap.size≤b) (ze3_in _ _) (fun b hb=>by omega) (putB_grown wr (w.heap.size) 25 B));obtain⟨w9,d⟩:=eX (putB wr (w.heap.size) 25 B);rw[←I];rw[←d]at a q r ⊢;clear d m p;rw[I]at a;clear I;have m:=a.o.cell;have p:=a.o.frozen;refine bodyPost_ret (v:= .tuple #[.agg #[.string ⟨#[]⟩,.string ⟨#[]⟩,.sn],.b false]) (by simp[results,Tryz.results14,go_sem,m]) rfl ?_;rw[G.o];exact⟨ze3,rfl,hI rfl,hI (r.o.mono (fun b hb=>by omega)),q⟩
end Go.Proofs.YtgcjmhjjpbcfmaaGreatDoor
namespace Go.Proofs.YtgcjmhjjpbcfmaaGreatDoor
open Go.RowKit Go.Fl Go.Fl.Lx Go.Fl.Nm Go.Fl.Fm Go.Fl.Rt Go.Fl.Pa
def zT:TE:= .mk ⟨0,0,0,⟨#[]⟩,0⟩ []
def exT(l:List UInt8):TE:=if(exprR l).1.2.2=0 then(exprR l).2.getD zT else zT
def pbT(l:List UInt8):PbP:=if(probR l).1.2.2=0 then(probR l).2.getD zPb.pl else zPb.pl
def exE(l:List UInt8):Nat:=(exprR l).1.2.2
def pbE(l:List UInt8):Nat:=(probR l).1.2.2
theorem pExpr_t(s:ByteArray)(w:World)(hs:s.size≤maxLen)(hR:RX w)(hX:FX w):Calls Tryz.prog 43 #[.string s] w fun e w'=>∃(v:Nd) (ln co:Nat),e= .returned (.tuple #[v.val,.agg #[.i ln,.i co],.i (exE s.data.toList)])∧Hid (Below w.heap.size w w')∧Hid (InX w.heap.size w' (exT s.data.toList) v):=
  (pExpr s w hs hR hX).mono (by
    rintro e w' ⟨v,rfl,HB,h1,h2⟩;refine⟨v,_,_,rfl,HB,?_⟩;unfold exT
    by_cases h:(exprR s.data.toList).1.2.2=0
    · rw[if_pos h]
      obtain⟨T,e,hx⟩:=h2 h;rw[e];exact hx
    · rw[if_neg h,h1 h]
      exact inx_leaf _ _ _ ⟨by decide,by decide,by decide,by decide,by decide,by decide,by decide,by decide,by decide⟩)
theorem pProb_t(s:ByteArray)(w:World)(hs:s.size≤maxLen)(hR:RX w)(hX:FX w):Calls Tryz.prog 15 #[.string s] w fun e w'=>∃(v:PbN) (ln co:Nat),e= .returned (.tuple #[v.val,.agg #[.i ln,.i co],.i (pbE s.data.toList)])∧Hid (Below w.heap.size w w')∧Hid (InXP w.heap.size w' (pbT s.data.toList) v):=
  (pProblemX s w hs hR hX).mono (by
    rintro e w' ⟨v,rfl,HB,h1,h2⟩;refine⟨v,_,_,rfl,HB,?_⟩;unfold pbT
    by_cases h:(probR s.data.toList).1.2.2=0
    · rw[if_pos h]
      obtain⟨T,e,hx⟩:=h2 h;rw[e];exact hx
    · rw[if_neg h,h1 h]
      exact⟨rfl,⟨lil_nil _ _,lil_nil _ _,lil_nil _ _,by decide,by decide,by decide,by decide⟩⟩)
end Go.Proofs.YtgcjmhjjpbcfmaaGreatDoor
namespace Go.Proofs.YtgcjmhjjpbcfmaaGreatDoor
open Go.RowKit Go.Fl Go.Fl.Lx Go.Fl.Nm Go.Fl.Fm Go.Fl.Rt Go.Fl.Pa Go.Fl.Lb
theorem store5_put9{w:World}{g:Nat}{t:TypeId}{a b c d e:Value}(hB:Blk w g t #[a,b,c,d,e])(a' b' c' d' e':Value):
 ((((w.setCell ⟨g,0,none⟩ a').setCell ⟨g,1,none⟩ b').setCell ⟨g,2,none⟩ c').setCell ⟨g,3,none⟩ d').setCell ⟨g,4,none⟩ e'=putB w g t #[a',b',c',d',e']:=by
 rw[hB.setCell_eq 0 a',(hB.put _).setCell_eq 1 b',putB_putB,(hB.put _).setCell_eq 2 c',putB_putB,(hB.put _).setCell_eq 3 d',putB_putB,(hB.put _).setCell_eq 4 e',putB_putB]
 rfl
def pO(s:List UInt8):PbP:=if(fE s).2=0 then pbT (fE s).1.tx else zPb.pl
theorem fE_of{s:List UInt8}(h:(fE s).2=0):∃p,Of (fE s).1 p∧(fE s).1∈ents:=by
 unfold fE at h ⊢
 cases hf:ents.find? (fun e=>e.nm==s)with
 | none=>rw[hf]at h;cases h
 | some e=>
  have hm:=List.mem_of_find?_eq_some hf;obtain⟨i,hi,he⟩:=List.getElem_of_mem hm;obtain⟨e',p,h1,_,h3⟩:=of_all i hi;rw[List.getElem?_eq_getElem hi,he]at h1;injection h1 with h1;subst h1;exact⟨p,h3,hm⟩
theorem fE_mem{s:List UInt8}(h:(fE s).2=0):(fE s).1∈ents:=by
 unfold fE at h ⊢
 cases hf:ents.find? (fun e=>e.nm==s)with
 | none=>rw[hf]at h;cases h
 | some e=>exact List.mem_of_find?_eq_some hf
theorem fE_pb{s:List UInt8}(h:(fE s).2=0):pbE (fE s).1.tx=0∧(fE s).1.tx.length≤400:=by
 obtain⟨p,h1,h2⟩:=fE_of h;have hl:=tb_len _ h2;have:=of_read h1;exact⟨by unfold pbE;rw[this],hl⟩
theorem pO_of{s:List UInt8}{p:PbP}(h:(fE s).2=0)(hp:Of (fE s).1 p)(hm:(fE s).1∈ents):pO s=p:=by
 unfold pO pbT;have:=of_read hp;rw[if_pos h,this]
 rfl
def LpQ(s:List UInt8)(w:World)(e:Ending)(w':World):Prop:=∃v:PbN,e= .returned (.tuple #[.agg #[.l v.A v.n v.c,.l v.B v.m v.d,.l v.C v.k v.e,.i v.t,.i v.u],.i (fE s).2])∧Hid (InXP w.heap.size w' (pO s) v)∧Hid (Below w.heap.size w w')
theorem zp9(P:Nat→Prop)(w:World):PzP P w zPb:=⟨lil_nil _ _,lil_nil _ _,lil_nil _ _,by decide,by decide,by decide,by decide⟩
theorem zPb_in(B:Nat)(w:World):InXP B w zPb.pl zPb:=⟨rfl,zp9 _ _⟩
theorem lproblem_any(s:ByteArray)(w:World)(hR:RX w)(hX:FX w)(hb9:(fE s.data.toList).2=0→pbE (fE s.data.toList).1.tx=0∧(fE s.data.toList).1.tx.length≤400):
 Calls Tryz.prog 13 #[.string s] w (LpQ s.data.toList w):=by
 have HR:=hI hR;have HX:=hI hX;obtain⟨L,O⟩:=eX (s.data.toList);have HS:=hI O.symm;rw[←O]at hb9 ⊢;have ak:=hI hb9;clear hR hX O hb9;have al:=hI (Below.refl w.heap.size w)
 go_in
 go_upto_region 1 with(fail);generalize a:World.alloc _ _=ww1;obtain⟨P,X⟩:=gn1 a;clear a;have Y:=al.o.t P;have ay:w.heap.size<ww1.heap.size:=X.o.lt;have az:w.heap.size≤ww1.heap.size:=Y.o.size;go_wp2_with fail;refine(get_any s ww1).mono ?_;rw[HS.o];rintro e ww2 ⟨x,rfl,Q,HK,p⟩;have am:=Y.o.t p;obtain⟨R,S⟩:=eX ((fE L).2);have q:=hI S.symm;rw[←S];clear S;go_upto_region 2 with(fail);generalize a:World.alloc _ _=ww3;obtain⟨y,Z⟩:=gn1 a;clear a;have aa:=am.o.t y;have J:=hI ((X.o.belowW p.o).belowW y.o);have ce:=Z.o.cell;have fe:=Z.o.frozen
 by_cases h0:R=0
 case neg=>
  have d0:(R !=0)=true:=(by simp[h0]);have an:=hI (show pO L=zPb.pl by unfold pO;rw[if_neg (by rw[q.o];exact h0)]);clear h0;obtain⟨b,z,g,D,i,E,j,F,l,G⟩:=J.o.all5;go_wp2;rw[store5_put9 J.o];obtain⟨M,T⟩:=eX (#[.sn,.sn,.sn,.i 0,.i 0]:Array Value);have o:=hI (J.o.put M);have H:=hI (aa.o.trans (putB_below ww3 (w.heap.size) 44 M (by omega)));have I:=hI ((zPb_in ww1.heap.size ww3).far (r:=w.heap.size) (by omega) 44 M);obtain⟨w9,a⟩:=eX (putB ww3 (w.heap.size) 44 M);rw[←T];rw[←a]at o H I ⊢;clear a;rw[T]at o;clear T;clear ce fe b z g D i E j F l G;obtain⟨b,z,g,D,i,E,j,F,l,G⟩:=o.o.all5;refine bodyPost_ret (v:= .tuple #[.agg #[.sn,.sn,.sn,.i 0,.i 0],.i R]) (by simp[results,Tryz.results13,go_sem,b,g,i,j,l]) rfl ?_;unfold LpQ;rw[an.o,q.o];exact⟨zPb,rfl,hI (I.o.weaken (by omega)),H⟩
 subst h0;obtain⟨ad,ao⟩:=ak.o q.o;have ap:=hI (show pbE x.tx.data.toList=0 by have:=congrArg En.tx Q.o;rw[show x.pl.tx=x.tx.data.toList from rfl]at this;rw[this];exact ad);have aq:=hI (show pbT x.tx.data.toList=pO L by have:=congrArg En.tx Q.o;rw[show x.pl.tx=x.tx.data.toList from rfl]at this;rw[this];unfold pO;rw[if_pos q.o])
 have ar:x.tx.size≤maxLen:=by
  have h1:=congrArg (fun e=>e.tx.length) Q.o;have h2:x.tx.size=x.tx.data.toList.length:=rfl;simp only[EnN.pl]at h1;unfold maxLen
  omega
 clear ad ao;go_wp2_with fail;refine(pProb_t x.tx ww3 ar (((HR.o.belowW P.o).belowW p.o).belowW y.o) (((HX.o.belowW P.o).belowW p.o).belowW y.o)).mono ?_;rw[ap.o,aq.o];rintro e ww4 ⟨v,ln,co,rfl,ae,HV⟩;have af:=aa.o.t ae;clear ce fe;have a5:ww1.heap.size≤ww3.heap.size:=(by have:=p.o.size;have:=y.o.size;omega);go_upto_region 5 with(fail);generalize a:World.alloc _ _=ww5;obtain⟨U,ag,_⟩:=gn2 a;clear a;have V:=hI ((J.o.belowW ae.o).belowW U.o);have cp:=ag.o.cell;have fp:=ag.o.frozen;obtain⟨b,z,g,D,i,E,j,F,l,G⟩:=V.o.all5;go_wp2;rw[store5_put9 V.o];obtain⟨N,W⟩:=eX (#[.l v.A v.n v.c,.l v.B v.m v.d,.l v.C v.k v.e,.i v.t,.i v.u]:Array Value);have o:=hI (V.o.put N);have H:=hI ((af.o.trans (U.o.mono af.o.size)).trans (putB_below ww5 (w.heap.size) 44 N (by omega)));have I:=hI ((HV.o.belowW U.o).far (r:=w.heap.size) (by omega) 44 N);obtain⟨w9,a⟩:=eX (putB ww5 (w.heap.size) 44 N);rw[←W];rw[←a]at o H I ⊢;clear a;rw[W]at o;clear W;clear cp fp b z g D i E j F l G;obtain⟨b,z,g,D,i,E,j,F,l,G⟩:=o.o.all5;refine bodyPost_ret (v:= .tuple #[.agg #[.l v.A v.n v.c,.l v.B v.m v.d,.l v.C v.k v.e,.i v.t,.i v.u],.i 0]) (by simp[results,Tryz.results13,go_sem,b,g,i,j,l]) rfl ?_;unfold LpQ;rw[q.o];exact⟨v,rfl,hI (I.o.weaken (by omega)),H⟩
end Go.Proofs.YtgcjmhjjpbcfmaaGreatDoor
namespace Go.Proofs.YtgcjmhjjpbcfmaaGreatDoor
open Go.RowKit Go.Fl Go.Fl.Nm Go.Fl.Dy Go.Fl.Fm Go.Fl.Lb
def lkV(l:List (ByteArray×Iv))(s:ByteArray):Iv:=match l.find? (fun p=>p.1==s)with
  | some p=>p.2
  | none=>whI
def evV(ap:Int→Int→Iv→Iv→Int→Iv)(l:List (ByteArray×Iv))(p:Int):Nat→TE→Iv
  | 0,_=>whI
  | f+1,T=>if T.h.kind=1 then enV T.h.n T.h.d p else if T.h.kind=2 then lkV l T.h.name
    else ap T.h.kind T.h.k (if 0<T.l.length then evV ap l p f (T.l.getD 0 default)else zeI) (if 1<T.l.length then evV ap l p f (T.l.getD 1 default)else zeI) p
def EvV(ap:Int→Int→Iv→Iv→Int→Iv)(l:List (ByteArray×Iv)):Nat→TE→Prop
  | 0,_=>False
  | f+1,T=>T.h.kind=1∨(T.h.kind=2∧∃(i:Nat) (q:ByteArray×Iv),l[i]? =some q∧q.1=T.h.name∧q.2.val=true)∨(T.h.kind≠1∧T.h.kind≠2∧ApplyAt ap T.h.kind∧T.l.length≤2∧∀i,i<T.l.length→EvV ap l f (T.l.getD i default))
def tl9(q:ByteArray×IvN):ByteArray×Iv:=(q.1,q.2.x)
theorem lkI_V(l:List (ByteArray×IvN))(s:ByteArray):lkI l s=lkV (l.map tl9) s:=by
 unfold lkI lkV;rw[List.find?_map]
 cases h:l.find? ((fun p=>p.1==s)∘tl9)with
 | none=>
  have h':l.find? (fun p=>p.1==s)=none:=h
  rw[h'];rfl
 | some p=>
  have h':l.find? (fun p=>p.1==s)=some p:=h;rw[h'];rfl
theorem evF_V(ap:Int→Int→Iv→Iv→Int→Iv)(l:List (ByteArray×IvN))(p:Int):∀(f:Nat) (T:TE),evF ap l p f T=evV ap (l.map tl9) p f T
 | 0,_=>rfl
 | f+1,T=>by
  unfold evF evV;rw[evF_V ap l p f,evF_V ap l p f,lkI_V]
theorem EvV.ok{ap:Int→Int→Iv→Iv→Int→Iv}{l:List (ByteArray×IvN)}:∀{f:Nat} {T:TE},EvV ap (l.map tl9) f T→EvOK ap l f T
 | 0,_,h=>h
 | f+1,T,h=>by
  unfold EvV at h;unfold EvOK
  rcases h with h | ⟨h,i,q,h1,h2,h3⟩ | ⟨h1,h2,h3,h4,h5⟩
  ·
   exact .inl h
  ·
   refine .inr (.inl ⟨h,i,?_⟩);rw[List.getElem?_map]at h1
   cases hq:l[i]? with
   | none=>rw[hq]at h1;cases h1
   | some z=>
    rw[hq]at h1;injection h1 with h1;subst h1;exact⟨z,rfl,h2,h3⟩
  exact .inr (.inr ⟨h1,h2,h3,h4,fun i hi=>EvV.ok (h5 i hi)⟩)
theorem zip_tl(ns:List ByteArray)(vs:List IvN):(ns.zip vs).map tl9=ns.zip (vs.map IvN.x):=by
 induction ns generalizing vs with
 | nil=>rfl
 | cons n ns ih=>
  cases vs with
  | nil=>rfl
  | cons v vs=>simp only[List.zip_cons_cons,List.map_cons,ih];rfl
def nsO(s:List UInt8):List ByteArray:=((pO s).st++(pO s).pa).map (fun d=>⟨d.s.toArray⟩)++[⟨#[116]⟩]
def outV(ap:Int→Int→Iv→Iv→Int→Iv)(s:List UInt8)(rs:List (Int×Int))(p:Int)(f:Nat):List Iv:=
  (fE s).1.kn.map fun k=>evV ap ((nsO s).zip (rs.map fun q=>enV q.1 q.2 p)) p f (exT k)
def OutOK(ap:Int→Int→Iv→Iv→Int→Iv)(s:List UInt8)(rs:List (Int×Int))(p:Int)(f:Nat):Prop:=
  (nsO s).Nodup∧∀k∈(fE s).1.kn,exE k=0∧okE (exT k)=true∧k.length≤400∧EvV ap ((nsO s).zip (rs.map fun q=>enV q.1 q.2 p)) f (exT k)
theorem ex_of9{s:List UInt8}{T:TE}(e:exprR s=((0,0,0),some T)):exE s=0∧exT s=T:=by
 unfold exE exT;rw[e];exact⟨rfl,rfl⟩
theorem bytes_ext9{a b:ByteArray}(h:a.data.toList=b.data.toList):a=b:=ByteArray.ext (Array.toList_inj.1 h)
theorem kn_len:∀e∈ents,e.kn.length≤2:=by decide+kernel
theorem bytes_eta(a:ByteArray):(⟨a.data.toList.toArray⟩:ByteArray)=a:=by
 cases a
 simp
theorem nsO_of{s:List UInt8}{v:PbN}(h:v.pl=pO s):(v.st++v.pa).map DcN.s++[⟨#[116]⟩]=nsO s:=by
 unfold nsO;rw[←h]
 congr 1
 show _=(v.st.map DcN.pl++v.pa.map DcN.pl).map _
 rw[←List.map_append,List.map_map]
 refine List.map_congr_left fun d _=>?_
 exact(bytes_eta d.s).symm
end Go.Proofs.YtgcjmhjjpbcfmaaGreatDoor
namespace Go.Fl.Dy
open Go.Fl.Nm
theorem encR_eq{n d:Int}{p:Nat}(hv:Rt.valid n d)(hp:8≤p)(hp2:p≤512):encR n d p=(encE n d p false,encE n d p true,false):=by
 have hv0:=hv;obtain⟨v1,v2,v3,v4,_⟩:=hv;unfold Rt.MX at v2 v3 v4;have hpr:precB (p:Int)=true:=precB_iff.2 ⟨by omega,by omega⟩
 have key:∀up,divE (canon (decide (n<0)) n.natAbs 0) (canon false d.natAbs 0) p up=(encE n d p up,0):=by
  intro up;unfold divE;rw[hpr];simp only[if_true,Int.toNat_natCast];unfold encE
  by_cases h0:n=0
  ·
   subst h0;simp only[if_true];unfold divR;have hd:(canon false d.natAbs 0).k≠0:=(by rw[canon_pos (by omega)];exact od_ne (by omega));rw[if_neg hd,if_pos (by rfl)]
  rw[if_neg h0];exact div_enc (decide (n<0)) up (by omega) (by omega) (by omega) (by omega) hp hp2 (enc_spec (by omega) (by omega) (by omega)) (encX_iff (by omega))
 unfold encR;rw[key,key,if_pos ⟨Rt.vB_iff.2 hv0,rfl,rfl⟩]
end Go.Fl.Dy
namespace Go.Proofs.YtgcjmhjjpbcfmaaGreatDoor
open Go.RowKit Go.Fl Go.Fl.Nm Go.Fl.Dy Go.Fl.Fm Go.Fl.Lb
def bDc:List UInt8:=[100,101,99,97,121]
theorem fE_dc:fE bDc=(en0,0):=by kernel_rfl
theorem pO_dc:pO bDc=pr0:=pO_of (s:=bDc) (p:=pr0) (by rw[fE_dc]) (by rw[fE_dc];exact⟨rd0,by decide⟩) (by rw[fE_dc];unfold ents;simp)
theorem pb_dc:pbE (fE bDc).1.tx=0∧(fE bDc).1.tx.length≤400:=by
 rw[fE_dc];exact⟨by unfold pbE;rw[show en0.tx=tb0 from rfl,rd0],by decide⟩
theorem nsO_dc:nsO bDc=[⟨#[120]⟩,⟨#[116]⟩]:=by unfold nsO;rw[pO_dc];rfl
theorem exT_dc:exE kB=0∧exT kB=kT:=ex_of9 kT_rd
theorem lkV_hit(a:ByteArray)(x:Iv)(l:List (ByteArray×Iv)):lkV ((a,x)::l) a=x:=by
 unfold lkV;rw[List.find?_cons,show(a==a)=true from(MapKept.bytes_beq _ _).2 rfl]
theorem lkV_next(a b:ByteArray)(x:Iv)(l:List (ByteArray×Iv))(h:(a==b)=false):lkV ((a,x)::l) b=lkV l b:=by
 unfold lkV;rw[List.find?_cons,h]
theorem enV_enI(n d:Int)(p:Nat)(hv:Rt.valid n d)(hp:8≤p)(hp2:p≤512):enV n d p=enI n d p:=by
 unfold enV enI;rw[encR_eq hv hp hp2]
theorem enV_val(n d:Int)(p:Nat)(hv:Rt.valid n d)(hp:8≤p)(hp2:p≤512)(h:(enI n d p).val=true):(enV n d p).val=true:=by rw[enV_enI n d p hv hp hp2];exact h
theorem va11:Rt.valid 1 1:=by decide
theorem va12:Rt.valid 1 2:=by decide
theorem va23:Rt.valid 2 3:=by decide
theorem enV_11:enV 1 1 53=enI 1 1 53:=enV_enI 1 1 53 va11 (by decide) (by decide)
theorem enV_12:enV 1 2 53=enI 1 2 53:=enV_enI 1 2 53 va12 (by decide) (by decide)
theorem ev_dc:evV ap0 [(⟨#[120]⟩,enV 1 1 53),(⟨#[116]⟩,enV 1 2 53)] 53 4 kT=dcV:=by
 have h1:=lkV_hit ⟨#[120]⟩ (enV 1 1 53) [(⟨#[116]⟩,enV 1 2 53)];have h2:lkV [(⟨#[120]⟩,enV 1 1 53),(⟨#[116]⟩,enV 1 2 53)] ⟨#[116]⟩=enV 1 2 53:=(by rw[lkV_next _ _ _ _ (by decide)];exact lkV_hit _ _ _);simp only[kT,Go.Fl.Pa.opE,Go.Fl.Pa.varE,Go.Fl.Pa.numE,evV,TE.h,TE.l,List.length_cons,List.length_nil,List.getD_cons_zero,List.getD_cons_succ,Nat.zero_lt_succ,if_true,if_false,ap0,Int.reduceEq,Nat.reduceAdd,Nat.reduceLT];rw[h1,h2,enV_11,enV_12]
 rfl
theorem out_dc:outV ap0 bDc [(1,1),(1,2)] 53 4=[dcV]:=by
 unfold outV;rw[fE_dc,nsO_dc]
 show [evV ap0 [(⟨#[120]⟩,enV 1 1 53),(⟨#[116]⟩,enV 1 2 53)] 53 4 (exT kB)]=[dcV]
 rw[exT_dc.2,ev_dc]
theorem ok_dc:OutOK ap0 bDc [(1,1),(1,2)] 53 4:=by
 refine⟨by rw[nsO_dc];decide,fun k hk=>?_⟩
 rw[fE_dc]at hk
 have e:k=kB:=List.mem_singleton.1 hk
 subst e
 rw[exT_dc.2,nsO_dc]
 refine⟨exT_dc.1,kT_ok,by decide,?_⟩
 show EvV ap0 [(⟨#[120]⟩,enV 1 1 53),(⟨#[116]⟩,enV 1 2 53)] 4 kT
 have b:(enV 1 1 53).val=true:=enV_val 1 1 53 va11 (by decide) (by decide) (by decide+kernel)
 have c:(enV 1 2 53).val=true:=enV_val 1 2 53 va12 (by decide) (by decide) (by decide+kernel)
 have a:∀f,EvV ap0 [(⟨#[120]⟩,enV 1 1 53),(⟨#[116]⟩,enV 1 2 53)] (f+1) (Go.Fl.Pa.varE [120]):=fun f=> .inr (.inl ⟨rfl,0,_,rfl,rfl,b⟩)
 have d:∀f,EvV ap0 [(⟨#[120]⟩,enV 1 1 53),(⟨#[116]⟩,enV 1 2 53)] (f+1) (Go.Fl.Pa.varE [116]):=fun f=> .inr (.inl ⟨rfl,1,_,rfl,rfl,c⟩)
 have g:EvV ap0 [(⟨#[120]⟩,enV 1 1 53),(⟨#[116]⟩,enV 1 2 53)] 2 (Go.Fl.Pa.opE 5 [Go.Fl.Pa.varE [120],Go.Fl.Pa.varE [116]]):= .inr (.inr ⟨by decide,by decide,apply_5,Nat.le_refl _,fun i hi=>by
  match i with
  | 0=>exact a 0
  | 1=>exact d 0
  | i+2=>exact absurd hi (by simp[Go.Fl.Pa.opE,TE.l])⟩)
 have j:EvV ap0 [(⟨#[120]⟩,enV 1 1 53),(⟨#[116]⟩,enV 1 2 53)] 3 (Go.Fl.Pa.opE 3 [Go.Fl.Pa.numE (1,1),Go.Fl.Pa.opE 5 [Go.Fl.Pa.varE [120],Go.Fl.Pa.varE [116]]]):= .inr (.inr ⟨by decide,by decide,apply_3,Nat.le_refl _,fun i hi=>by
  match i with
  | 0=>exact .inl rfl
  | 1=>exact g
  | i+2=>exact absurd hi (by simp[Go.Fl.Pa.opE,TE.l])⟩)
 exact .inr (.inr ⟨by decide,by decide,apply_6,Nat.le_refl _,fun i hi=>by
  match i with
  | 0=>exact a 2
  | 1=>exact j
  | i+2=>exact absurd hi (by simp[kT,Go.Fl.Pa.opE,TE.l])⟩)
theorem meet_dc:dcV.all=false∧meetB dcV (enV 2 3 60)=true:=by
 rw[show enV 2 3 60=enI 2 3 60 from enV_enI 2 3 60 va23 (by decide) (by decide)];exact dcV_ok
