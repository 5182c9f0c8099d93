import Derived.Test.YtgcjmhjjpbcfmaaGreatDoorPaJ
set_option linter.unusedVariables false
open List renaming setIfInBounds_toArray → Lj,set_cons_zero → Lk,set_cons_succ → Lq,getElem_toArray → Ly,getElem_cons_zero → Lz,getElem_cons_succ → Lv
set_option maxHeartbeats 4000000
set_option maxRecDepth 100000
namespace Go.Proofs.YtgcjmhjjpbcfmaaGreatDoor
open Go.RowKit Go.Fl Go.Fl.Lx Go.Fl.Nm Go.Fl.Fm Go.Fl.Rt Go.Fl.Pa
def chainR(ch:TE→Nat→PR TE)(r:PR TE):PR TE:=
  match r with
  | .ok e k1=>ch e k1
  | r=>r
def stepR(ts:List Tok)(opk:List UInt8→Int)(ch:TE→Nat→PR TE)(e:TE)(k:Nat)(r:PR TE):PR TE:=
  if(tk ts k).kind=3∧opk (tk ts k).text≠0 then
    match r with
    | .ok b k1=>ch (opE (opk (tk ts k).text) [e,b]) k1
    | r=>r
  else .ok e k
theorem map_kept{w w':World}{bm g:Nat}{o:Obj}(h:w.heap[bm]? =some o)(hg:w.grownBy w' (some g))(hne:bm≠g):w'.heap[bm]? =some o:=
 (hg.block bm (Array.getElem?_eq_some_iff.1 h).1 (fun e=>hne (Option.some.inj e))).trans h
theorem map_below{w w':World}{bm:Nat}{o:Obj}(h:w.heap[bm]? =some o)(hb:Below w.heap.size w w'):w'.heap[bm]? =some o:=
 (hb.block bm (Array.getElem?_eq_some_iff.1 h).1).trans h
theorem map_put{w:World}{bm r:Nat}{o:Obj}(h:w.heap[bm]? =some o)(hne:bm≠r)(t:TypeId)(V:Array Value):(putB w r t V).heap[bm]? =some o:=map_kept h (putB_grown w r t V) hne
def ChRel(w0 w:World)(g:Nat)(A:Option Addr)(len cap:Nat)(ts:List Tok)(m:Nat)(ch:Nat→TE→Nat→PR TE)(RR:PR TE)(B be bm:Nat)(es:Array MapEntry)(f0:Nat)(f:Nat)(wr:World):Prop:=
  ∃(T:TE) (v:Nd) (k:Nat),Hid (ch f T k=RR)∧Hid (k≤ts.length∧8*(ts.length-k)+2≤f∧f≤f0)∧Hid (InA (fun b=>B≤b∧b≠be) wr T v)∧Hid (Blk wr be 57 #[.i v.h.kind,.i v.h.n,.i v.h.d,.string v.h.name,.i v.h.k,.l v.A v.len v.cap])∧Hid (Blk wr w.heap.size 57 #[.i 0,.i 0,.i 0,.string ⟨#[]⟩,.i 0,.sn])∧
    Hid (Env w0 g A len cap ts k m wr)∧Hid (w.grownBy wr (some g))∧Hid (wr.heap[bm]? =some (.map es 2))
theorem pChain(mg:Bool){w0 w:World}{g:Nat}{A:Option Addr}{len cap:Nat}{ts:List Tok}{k m:Nat}(h:Env w0 g A len cap ts k m w)(hk:k≤100001)(bm:Nat)(es:Array MapEntry)(opk:List UInt8→Int)(hop:∀l,0≤opk l∧opk l≤13)
 (LK:∀(w':World) (l:List UInt8),w'.heap[bm]? =some (.map es 2)→(Instr.lookup 184 (.map (some bm)) (.string ⟨l.toArray⟩) true).run Tryz.prog w'= .ok (.tuple #[.int .i64 (opk l),.bool (opk l !=0)]) w')
 (hbm:w.heap[bm]? =some (.map es 2)) (hbg:bm≠g)
 (ch:Nat→TE→Nat→PR TE) (nx:Nat→Nat→PR TE) (hch:∀f e k,ch (f+1) e k=stepR ts opk (ch f) e k (nx f (k+1)))
 (hnk:∀f k b k2,nx f k= .ok b k2→k<k2∧k2≤ts.length) (hno:∀f k,8*(ts.length-k)+7≤f→nx f k≠ .out)
 (f0:Nat) (r:PR TE) (hr:r≠ .out) (hrk:∀T k1,r= .ok T k1→k1≤ts.length∧8*(ts.length-k1)+2≤f0)
 (K1:∀w',Env w0 g A len cap ts k m w'→Calls Tryz.prog (cond mg 115 150) #[.pointer (some ⟨g,0,none⟩)] w' (ExR w0 g A len cap ts m r w'))
 (K2:∀f k',f<f0→8*(ts.length-k')+7≤f→k'≤100001→∀w',Env w0 g A len cap ts k' m w'→Calls Tryz.prog (cond mg 115 151) #[.pointer (some ⟨g,0,none⟩)] w' (ExR w0 g A len cap ts m (nx f k') w')):
 Calls Tryz.prog 114 #[.pointer (some ⟨g,0,none⟩),.func (.func (cond mg 115 150)) #[.pointer (some ⟨g,0,none⟩)] #[],.func (.func (cond mg 115 151)) #[.pointer (some ⟨g,0,none⟩)] #[],.map (some bm)] w (ExR w0 g A len cap ts m (chainR (ch f0) r) w):=by
 obtain⟨b9,e9⟩:=eX (mg)
 cases mg
 all_goals
  dsimp only[cond]at K1 K2 ⊢
  have dt:=hI K2;have du:=hI LK;have dv:=hI hch;have dw:=hI hnk;have dx:=hI hno;have dy:=hI (show ts.length≤100000 by rw[h.t.hl];exact h.t.hs);obtain⟨F,bb⟩:=eX (chainR (ch f0) r);have ay:=hI bb;rw[←bb];have cx:=hI K1;clear K1 K2 LK hch hnk hno bb;have fa:bm<w.heap.size:=(Array.getElem?_eq_some_iff.1 hbm).1
  go_in
  go_upto_region 1 with(fail);generalize hw1:World.alloc _ _=w1;obtain⟨O1,U⟩:=gn1 hw1;clear hw1;have a6:=hI (show some w.heap.size≠some g from fun e=>by have:=h.gl;injection e with e;omega)
  have bc:w.heap.size≠g:=fun e=>a6.o (by rw[e])
  have cy:w0.heap.size≤w.heap.size:=h.b.size;have fb:g<w.heap.size:=h.gl;have I:=hI (h.belowW O1.o);have V:=hI (grown_of (some g) O1.o);have J:w.heap.size<w1.heap.size:=U.o.lt;clear h;have bd:g<w1.heap.size:=I.o.gl;have M1:=hI (map_below hbm O1.o);clear hbm;have KC:=hI (cx.o w1 I.o)
  cases r with
  | out=>exact(hr rfl).elim
  | bad ln co er=>
   have u:=hI (show F= .bad ln co er from ay.o);clear ay;go_wp2_with fail;refine KC.o.mono ?_;rintro e w2 ⟨rfl,P⟩;go_wp2_with fail;rw[u.o]
   exact⟨rfl,exr_bad (hI (grown_tr V.o P.o))⟩
  | ok T k1=>
   have u:=hI (show ch f0 T k1=F from ay.o.symm);have a7:=hI (show k1≤ts.length∧8*(ts.length-k1)+2≤f0∧f0≤f0 from⟨(hrk T k1 rfl).1,(hrk T k1 rfl).2,Nat.le_refl _⟩);clear ay hrk;go_wp2_with fail;refine KC.o.mono ?_;rintro e w2 ⟨v,rfl,c0,P,bg⟩;have bh:=hI (U.o.grown P.o a6.o);have c1:=P;go_upto_region 2 with(fail);generalize hw3:World.alloc _ _=w3;obtain⟨R,E3⟩:=gn1 hw3;clear hw3;have bj:=hI (InA.belowW (InA.weaken (InA.lt c0.o) (Q:=fun b=>w1.heap.size≤b∧b≠w2.heap.size) (fun b hb=>⟨hb.1,Nat.ne_of_lt hb.2⟩)) R.o);have dz:w.heap.size<w2.heap.size:=bh.o.lt;have W:w1.heap.size≤w2.heap.size:=c1.o.size;have d0:g<w2.heap.size:=bg.o.gl;obtain⟨x,c2⟩:=eX (w2.heap.size);rw[←c2]at W E3 dz d0 bj ⊢;clear c2;have a8:x≠g:=(by omega);have c3:w0.heap.size≤x:=(by omega);have c4:w.heap.size≤x:=(by omega);have c5:w.heap.size≠x:=(by omega);have c6:bm≠x:=(by omega);have c7:=hI (show some x≠some g from fun e=>a8 (Option.some.inj e));have c8:=J;clear J;have J:=c8;clear c8
   go_loopg [10,11] f0 (fun f d1 d2 wr=>ChRel w0 w g A len cap ts m ch F w1.heap.size x bm es f0 f wr)
   case atStart=>exact⟨T,v,k1,u,a7,bj,E3,(bh.o.b9 R),(bg.o.b9 R),(hI (grown_tr (grown_tr V.o P.o) (grown_of (some g) R.o))),(hI (map_below (map_kept M1.o P.o hbg) R.o))⟩
   clear u a7 bj E3 R c0 bg bh KC cx V I U O1 M1 c1;obtain⟨D,v,i,d3,a7,d4,E1,U,I,V,d6⟩:=hrel;obtain⟨d7,fc,fd⟩:=a7.o;have fe:=dy.o
   cases gk with
   | zero=>omega
   | succ f=>
    have o:=hI (show F=stepR ts opk (ch f) D i (nx f (i+1))from d3.o.symm.trans (dv.o f D i));have X:=hI (fun(w':World) (hb:Below wr.heap.size wr w')=>Env.tok (show Env w0 g A len cap ts i m w' from I.o.belowW hb) 0 (by omega));simp only[Nat.add_zero]at X;have bk:=@tk_lt ts i;have d8:=I.o.t.tk i;unfold stepR at o;obtain⟨G,c9⟩:=eX (tk ts i);rw[←c9]at X o bk d8;have da:=hop G.text;have bl:=hI (fun(w':World) (hh:w'.heap[bm]? =some (.map es 2))=>du.o w' G.text hh);obtain⟨a,db⟩:=eX (opk G.text);rw[←db]at bl o da;have dc:=hI (hd_op da)
    obtain⟨b,hb⟩:∃b,(a !=0)=b:=⟨_,rfl⟩
    have dd:=hI (show(a≠0)↔b=true by rw[←hb,bne_iff_ne]);rw[hb]at bl
    obtain⟨c,hc⟩:∃b,((G.kind:Int)!=3)=b:=⟨_,rfl⟩
    have de:=hI (show(G.kind≠3)↔c=true by rw[←hc,bne_iff_ne];omega);clear c9 db hb;have ff:=tokF0 G;have fg:=tokF1 G;go_wp2_with fail;refine(X.o wr (Below.refl _ _)).mono ?_;rintro e w4 ⟨rfl,H⟩;have M4:=hI (map_below d6.o H.o);have d9:=bl.o w4 M4.o;have bn:=hI (show Env w0 g A len cap ts i m w4 from I.o.belowW H.o);have E4:=E1.o.b9 H;have E:=U.o.b9 H;have bp:=d4.o.b9 H;have bq:=hI (grown_tr V.o (grown_of (some g) H.o))
    cases b with
    | false=>
     have u:=hI (show F= .ok D i by rw[o.o,if_neg (fun e=>by have:=dd.o.1 e.2;cases this)]);clear o;obtain⟨a0,b0,a1,b1,a2,b2,a3,b3,a4,b4,a5,b5⟩:=E4.o.all6;obtain⟨r0,h0,r1,h1,r2,h2,r3,h3,r4,h4,r5,h5⟩:=E.o.all6;go_wp2;rw[pst6 E.o];obtain⟨z0,_,z1,_,z2,_,z3,_,z4,_,z5,_⟩:=(E.o.put #[.int .i64 v.h.kind,.int .i64 v.h.n,.int .i64 v.h.d,.string v.h.name,.int .i64 v.h.k,.slice v.A v.len v.cap]).all6;refine bodyPost_ret (v:= .agg #[.int .i64 v.h.kind,.int .i64 v.h.n,.int .i64 v.h.d,.string v.h.name,.int .i64 v.h.k,.slice v.A v.len v.cap]) (by simp[results,Tryz.results114,go_sem,z0,z1,z2,z3,z4,z5]) rfl ?_;rw[u.o]
     exact⟨v,rfl,hI (InA.weaken (InA.far bp.o (fun e=>absurd e.1 (Nat.not_le_of_lt J)) _ _) (fun b hb=>Nat.le_trans (Nat.le_of_lt J) hb.1)),hI (grown_new bq.o (Nat.le_refl _) _ _),hI (bn.o.far bc cy _ _)⟩
    | true=>
     cases c with
     | true=>
      have u:=hI (show F= .ok D i by rw[o.o,if_neg (fun e=>de.o.2 (by first | rfl | trivial) e.1)]);clear o;go_wp2_with fail;refine(X.o w4 H.o).mono ?_;rintro e w5 ⟨rfl,q⟩;have E:=E.o.b9 q;obtain⟨a0,b0,a1,b1,a2,b2,a3,b3,a4,b4,a5,b5⟩:=(E4.o.belowW q.o).all6;obtain⟨r0,h0,r1,h1,r2,h2,r3,h3,r4,h4,r5,h5⟩:=E.o.all6;go_wp2;rw[pst6 E.o];obtain⟨z0,_,z1,_,z2,_,z3,_,z4,_,z5,_⟩:=(E.o.put #[.int .i64 v.h.kind,.int .i64 v.h.n,.int .i64 v.h.d,.string v.h.name,.int .i64 v.h.k,.slice v.A v.len v.cap]).all6;refine bodyPost_ret (v:= .agg #[.int .i64 v.h.kind,.int .i64 v.h.n,.int .i64 v.h.d,.string v.h.name,.int .i64 v.h.k,.slice v.A v.len v.cap]) (by simp[results,Tryz.results114,go_sem,z0,z1,z2,z3,z4,z5]) rfl ?_;rw[u.o]
      exact⟨v,rfl,hI (InA.weaken (InA.far (bp.o.belowW q.o) (fun e=>absurd e.1 (Nat.not_le_of_lt J)) _ _) (fun b hb=>Nat.le_trans (Nat.le_of_lt J) hb.1)),hI (grown_new (grown_tr bq.o (grown_of (some g) q.o)) (Nat.le_refl _) _ _),hI ((bn.o.belowW q.o).far bc cy _ _)⟩
     | false=>
      have dg:G.kind=3:=by
       apply Decidable.byContradiction
       intro h;have:=de.o.1 h
       cases this
      have d7:=bk (by omega);have o:=hI (o.o.trans (if_pos ⟨dg,dd.o.2 (by first | rfl | trivial)⟩));have Y:=hI (dt.o f (i+1) (by omega) (by omega) (by omega));have dh:=dx.o f (i+1) (by omega);have di:=hI (dw.o f (i+1));obtain⟨r2,dj⟩:=eX (nx f (i+1));rw[←dj]at o Y dh di;clear dj dg bk;go_wp2_with fail;refine(X.o w4 H.o).mono ?_;rintro e w5 ⟨rfl,q⟩;have dk:=bn.o.b9 q;have HP:=hI (show Blk w5 g 124 #[.slice A len cap,.int .i64 (i:Nat),.int .i64 (m:Nat)]from dk.o.p);have e1:IntKind.i64.wrap ((i:Int)+1)=(i:Int)+1:=(by rw[IntKind.wrap_i64];omega);obtain⟨p0,e0,p1,f1,p2,f2⟩:=HP.o.all3;go_upto_region 6 with(fail);rw[HP.o.setCell_eq];have a9:=hI (putB_grown w5 g 124 #[.slice A len cap,.int .i64 ((i+1:Nat):Int),.int .i64 (m:Nat)]);have b6:=hI (dk.o.put (i+1) m (by omega));have E6:=hI ((E4.o.belowW q.o).far (t':=124) a8 #[.slice A len cap,.int .i64 ((i+1:Nat):Int),.int .i64 (m:Nat)]);have F6:=hI ((E.o.belowW q.o).far (t':=124) bc #[.slice A len cap,.int .i64 ((i+1:Nat):Int),.int .i64 (m:Nat)]);have dm:=hI ((bp.o.belowW q.o).mv (fun e=>absurd e.1 (Nat.not_le_of_lt bd)) a9.o);have b8:=hI (grown_tr (grown_tr bq.o (grown_of (some g) q.o)) a9.o);have M6:=hI (map_kept (map_below M4.o q.o) a9.o hbg);obtain⟨Z,ca⟩:=eX (putB w5 g 124 #[.slice A len cap,.int .i64 ((i+1:Nat):Int),.int .i64 (m:Nat)]);have dp:putB w5 g 124 ((#[.slice A len cap,.int .i64 (i:Nat),.int .i64 (m:Nat)]:Array Value).setIfInBounds 1 (.int .i64 ((i:Int)+1)))=Z:=(by rw[ca];rfl);rw[←ca]at b6 E6 F6 dm b8 M6;rw[dp];clear ca dp p0 e0 p1 f1 p2 f2 HP a9 d9
      cases r2 with
      | out=>exact(dh rfl).elim
      | bad ln co er=>
       have u:=hI (show F= .bad ln co er from o.o);clear o;have s:=hI (below_dr Z);have z:=E6.o.b9 s;have B:=b6.o.b9 s;have L:=hI (grown_tr b8.o (grown_of (some g) s.o))
       refine wp_region_held_drew (S:=fun w'=>w'.cell? ⟨g,0,none⟩=some (.slice A len cap)) (by kernel_rfl) (Blk.cell B.o.p 0) fun hHeld=>?_
       obtain⟨aa,ab⟩:=eX (Z.drew);rw[←ab]at s z B L hHeld ⊢;clear ab;refine tkW 0 ?_;refine tkW 2 ?_;refine wpAnyH_ready (rs:=[1,3]) (by kernel_rfl) (by simp) ?_;refine(AllReadyH.cons rfl (fun K hK=>?_) (AllReadyH.cons rfl (fun K hK=>?_) AllReadyH.nil))
       ·
        obtain⟨ac,ad,ae,af,ag,ah,ai,aj,ak,al,am,an⟩:=z.o.all6;go_simp
        clear ac ad ae af ag ah ai aj ak al am an;clear hHeld
        refine hK.out _ _ (Blk.cell B.o.p 0) fun hHeld=>?_
        clear hK K
        try simp only[Lj,Lk,Lq]
        refine wr1 3 fun K hK=>?_
        go_simp
        (with_reducible refine(Y.o aa B.o).mono ?_)
        rintro e w33 ⟨rfl,j⟩;clear hHeld;go_wp2_with fail;rw[u.o];exact⟨rfl,exr_bad (hI (grown_tr L.o j.o))⟩
       go_simp
       (with_reducible refine(Y.o aa B.o).mono ?_)
       rintro e w32 ⟨rfl,j⟩;clear hHeld;go_wp2_with fail;rw[u.o]
       exact⟨rfl,exr_bad (hI (grown_tr L.o j.o))⟩
      | ok T1 k2=>
       have e6:=(di.o T1 k2 rfl);have dq:=hI (show ch f (.mk ⟨a,0,0,⟨#[]⟩,0⟩ [D,T1]) k2=F from o.o.symm);have dr:=hI (show k2≤ts.length∧8*(ts.length-k2)+2≤f∧f≤f0 from⟨e6.2,by omega,by omega⟩);clear o;have s:=hI (below_dr Z);have cb:=F6.o.b9 s;have z:=E6.o.b9 s;have B:=b6.o.b9 s;have L:=hI (grown_tr b8.o (grown_of (some g) s.o));have cc:=dm.o.b9 s;have cd:=hI (map_below M6.o s.o)
       refine wp_region_held_drew (S:=fun w'=>w'.cell? ⟨g,0,none⟩=some (.slice A len cap)) (by kernel_rfl) (Blk.cell B.o.p 0) fun hHeld=>?_
       obtain⟨aa,ab⟩:=eX (Z.drew);rw[←ab]at s cb z B L cc cd hHeld ⊢;clear ab;refine tkW 0 ?_;refine tkW 2 ?_;refine wpAnyH_ready (rs:=[1,3]) (by kernel_rfl) (by simp) ?_;refine(AllReadyH.cons rfl (fun K hK=>?_) (AllReadyH.cons rfl (fun K hK=>?_) AllReadyH.nil))
       ·
        obtain⟨ac,ad,ae,af,ag,ah,ai,aj,ak,al,am,an⟩:=z.o.all6;go_simp
        clear ac ad ae af ag ah ai aj ak al am an;clear hHeld
        refine hK.out _ _ (Blk.cell B.o.p 0) fun hHeld=>?_
        clear hK K
        try simp only[Lj,Lk,Lq]
        refine wr1 3 fun K hK=>?_
        go_simp
        (with_reducible refine(Y.o aa B.o).mono ?_)
        rintro e w33 ⟨y,rfl,ce,j,cf⟩;have cg:=hI (z.o.grown j.o c7.o);have ds:=hI (cf.o);go_wp2_with fail;clear hHeld
        refine hK.out _ _ (Blk.cell ds.o.p 0) fun hHeld=>?_
        clear hK K
        try simp only[Lj,Lk,Lq]
        refine wr1 4 fun K hK=>?_
        go_simp;obtain⟨ao,M,C,_⟩:=aX w33 57 #[.int .i64 v.h.kind,.int .i64 v.h.n,.int .i64 v.h.d,.string v.h.name,.int .i64 v.h.k,.slice v.A v.len v.cap,.int .i64 y.h.kind,.int .i64 y.h.n,.int .i64 y.h.d,.string y.h.name,.int .i64 y.h.k,.slice y.A y.len y.cap];have N:=cg.o.b9 C;have ap:=ds.o.b9 C;have ci:=hI (show InA (fun b=>w1.heap.size≤b∧b≠x) ao (.mk ⟨a,0,0,⟨#[]⟩,0⟩ [D,T1]) ⟨⟨a,0,0,⟨#[]⟩,0⟩,some ⟨w33.heap.size,0,none⟩,2,2⟩by rw[M];exact ina_new2 w33 ⟨a,0,0,⟨#[]⟩,0⟩ dc.o D T1 v y _ ⟨Nat.le_trans W (Nat.le_of_lt cg.o.lt),Nat.ne_of_gt cg.o.lt⟩ (cc.o.mv (fun e=>absurd e.1 (Nat.not_le_of_lt bd)) j.o) (InA.weaken ce.o (fun b hb=>⟨Nat.le_trans W (Nat.le_trans (Nat.le_of_lt z.o.lt) hb),Nat.ne_of_gt (Nat.lt_of_lt_of_le z.o.lt hb)⟩)));rw[←M];clear M;clear hHeld
        refine hK.out _ _ (Blk.cell ap.o.p 0) fun hHeld=>?_
        clear hK K
        try simp only[Lj,Lk,Lq]
        refine tkW 5 ?_
        refine wr1 6 fun K hK=>?_
        obtain⟨cj,ck,cl,cm,cn,cp,cq,cr,cs,ct,cu,cv⟩:=N.o.all6;go_simp;rw[pst6 N.o];clear cj ck cl cm cn cp cq cr cs ct cu cv;have aq:=hI (((cb.o.grown j.o a6.o).belowW C.o).far (t':=57) c5 #[.int .i64 a,.int .i64 0,.int .i64 0,.string ⟨#[]⟩,.int .i64 0,.slice (some ⟨w33.heap.size,0,none⟩) 2 2]);have O:=hI (ap.o.far a8 c3 57 #[.int .i64 a,.int .i64 0,.int .i64 0,.string ⟨#[]⟩,.int .i64 0,.slice (some ⟨w33.heap.size,0,none⟩) 2 2]);have ar:=hI (grown_new (grown_tr (grown_tr L.o j.o) (grown_of (some g) C.o)) c4 57 #[.int .i64 a,.int .i64 0,.int .i64 0,.string ⟨#[]⟩,.int .i64 0,.slice (some ⟨w33.heap.size,0,none⟩) 2 2]);have au:=hI (map_put (map_below (map_kept cd.o j.o hbg) C.o) c6 57 #[.int .i64 a,.int .i64 0,.int .i64 0,.string ⟨#[]⟩,.int .i64 0,.slice (some ⟨w33.heap.size,0,none⟩) 2 2]);have av:=hI (ci.o.far (fun e=>e.2 rfl) 57 #[.int .i64 a,.int .i64 0,.int .i64 0,.string ⟨#[]⟩,.int .i64 0,.slice (some ⟨w33.heap.size,0,none⟩) 2 2]);have aw:=hI (N.o.put #[.int .i64 a,.int .i64 0,.int .i64 0,.string ⟨#[]⟩,.int .i64 0,.slice (some ⟨w33.heap.size,0,none⟩) 2 2]);obtain⟨e7,ax⟩:=eX (putB ao (x) 57 #[.int .i64 a,.int .i64 0,.int .i64 0,.string ⟨#[]⟩,.int .i64 0,.slice (some ⟨w33.heap.size,0,none⟩) 2 2]);rw[←ax]at aq O ar au av aw ⊢;clear ax hHeld
        refine hK.out _ _ (Blk.cell O.o.p 0) fun hHeld=>?_
        clear hK K
        try simp only[Lj,Lk,Lq]
        refine wpAnyH_done (by kernel_rfl) ?_ _;go_wp2
        go_roundg f
        case measure=>exact Nat.lt_succ_self f
        case rel=>exact⟨_,⟨⟨a,0,0,⟨#[]⟩,0⟩,some ⟨w33.heap.size,0,none⟩,2,2⟩,k2,dq,dr,av,aw,aq,O,ar,au⟩
       go_simp
       (with_reducible refine(Y.o aa B.o).mono ?_)
       rintro e w32 ⟨y,rfl,ce,j,cf⟩;have ba:=hI (z.o.grown j.o c7.o);have cw:=hI (cf.o);go_wp2_with fail;clear hHeld
       refine hK.out _ _ (Blk.cell cw.o.p 0) fun hHeld=>?_
       clear hK K
       try simp only[Lj,Lk,Lq]
       refine wr1 1 fun K hK=>?_
       obtain⟨ac,ad,ae,af,ag,ah,ai,aj,ak,al,am,an⟩:=ba.o.all6;go_simp
       clear ac ad ae af ag ah ai aj ak al am an;clear hHeld
       refine hK.out _ _ (Blk.cell cw.o.p 0) fun hHeld=>?_
       clear hK K
       try simp only[Lj,Lk,Lq]
       refine wr1 4 fun K hK=>?_
       go_simp;obtain⟨ao,M,C,_⟩:=aX w32 57 #[.int .i64 v.h.kind,.int .i64 v.h.n,.int .i64 v.h.d,.string v.h.name,.int .i64 v.h.k,.slice v.A v.len v.cap,.int .i64 y.h.kind,.int .i64 y.h.n,.int .i64 y.h.d,.string y.h.name,.int .i64 y.h.k,.slice y.A y.len y.cap];have N:=ba.o.b9 C;have ap:=cw.o.b9 C;have ci:=hI (show InA (fun b=>w1.heap.size≤b∧b≠x) ao (.mk ⟨a,0,0,⟨#[]⟩,0⟩ [D,T1]) ⟨⟨a,0,0,⟨#[]⟩,0⟩,some ⟨w32.heap.size,0,none⟩,2,2⟩by rw[M];exact ina_new2 w32 ⟨a,0,0,⟨#[]⟩,0⟩ dc.o D T1 v y _ ⟨Nat.le_trans W (Nat.le_of_lt ba.o.lt),Nat.ne_of_gt ba.o.lt⟩ (cc.o.mv (fun e=>absurd e.1 (Nat.not_le_of_lt bd)) j.o) (InA.weaken ce.o (fun b hb=>⟨Nat.le_trans W (Nat.le_trans (Nat.le_of_lt z.o.lt) hb),Nat.ne_of_gt (Nat.lt_of_lt_of_le z.o.lt hb)⟩)));rw[←M];clear M;clear hHeld
       refine hK.out _ _ (Blk.cell ap.o.p 0) fun hHeld=>?_
       clear hK K
       try simp only[Lj,Lk,Lq]
       refine tkW 5 ?_
       refine wr1 6 fun K hK=>?_
       obtain⟨cj,ck,cl,cm,cn,cp,cq,cr,cs,ct,cu,cv⟩:=N.o.all6;go_simp;rw[pst6 N.o];clear cj ck cl cm cn cp cq cr cs ct cu cv;have aq:=hI (((cb.o.grown j.o a6.o).belowW C.o).far (t':=57) c5 #[.int .i64 a,.int .i64 0,.int .i64 0,.string ⟨#[]⟩,.int .i64 0,.slice (some ⟨w32.heap.size,0,none⟩) 2 2]);have O:=hI (ap.o.far a8 c3 57 #[.int .i64 a,.int .i64 0,.int .i64 0,.string ⟨#[]⟩,.int .i64 0,.slice (some ⟨w32.heap.size,0,none⟩) 2 2]);have ar:=hI (grown_new (grown_tr (grown_tr L.o j.o) (grown_of (some g) C.o)) c4 57 #[.int .i64 a,.int .i64 0,.int .i64 0,.string ⟨#[]⟩,.int .i64 0,.slice (some ⟨w32.heap.size,0,none⟩) 2 2]);have au:=hI (map_put (map_below (map_kept cd.o j.o hbg) C.o) c6 57 #[.int .i64 a,.int .i64 0,.int .i64 0,.string ⟨#[]⟩,.int .i64 0,.slice (some ⟨w32.heap.size,0,none⟩) 2 2]);have av:=hI (ci.o.far (fun e=>e.2 rfl) 57 #[.int .i64 a,.int .i64 0,.int .i64 0,.string ⟨#[]⟩,.int .i64 0,.slice (some ⟨w32.heap.size,0,none⟩) 2 2]);have aw:=hI (N.o.put #[.int .i64 a,.int .i64 0,.int .i64 0,.string ⟨#[]⟩,.int .i64 0,.slice (some ⟨w32.heap.size,0,none⟩) 2 2]);obtain⟨e7,ax⟩:=eX (putB ao (x) 57 #[.int .i64 a,.int .i64 0,.int .i64 0,.string ⟨#[]⟩,.int .i64 0,.slice (some ⟨w32.heap.size,0,none⟩) 2 2]);rw[←ax]at aq O ar au av aw ⊢;clear ax hHeld
       refine hK.out _ _ (Blk.cell O.o.p 0) fun hHeld=>?_
       clear hK K
       try simp only[Lj,Lk,Lq]
       refine wpAnyH_done (by kernel_rfl) ?_ _;go_wp2
       go_roundg f
       case measure=>exact Nat.lt_succ_self f
       case rel=>exact⟨_,⟨⟨a,0,0,⟨#[]⟩,0⟩,some ⟨w32.heap.size,0,none⟩,2,2⟩,k2,dq,dr,av,aw,aq,O,ar,au⟩
