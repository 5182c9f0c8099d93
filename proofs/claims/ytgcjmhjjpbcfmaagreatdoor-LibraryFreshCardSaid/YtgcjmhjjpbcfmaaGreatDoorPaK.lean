import Derived.Test.YtgcjmhjjpbcfmaaGreatDoorPaJ
set_option linter.unusedVariables false
open List renaming setIfInBounds_toArray → Lj,set_cons_zero → Lk,set_cons_succ → Lq,getElem_toArray → Ly,getElem_cons_zero → Lz,getElem_cons_succ → Lv
set_option maxHeartbeats 4000000
set_option maxRecDepth 100000
namespace Go.Proofs.YtgcjmhjjpbcfmaaGreatDoor
open Go.RowKit Go.Fl Go.Fl.Lx Go.Fl.Nm Go.Fl.Fm Go.Fl.Rt Go.Fl.Pa
def chainR(ch:TE→Nat→PR TE)(r:PR TE):PR TE:=
  match r with
  | .ok e k1=>ch e k1
  | r=>r
def stepR(ts:List Tok)(opk:List UInt8→Int)(ch:TE→Nat→PR TE)(e:TE)(k:Nat)(r:PR TE):PR TE:=
  if(tk ts k).kind=3∧opk (tk ts k).text≠0 then
    match r with
    | .ok b k1=>ch (opE (opk (tk ts k).text) [e,b]) k1
    | r=>r
  else .ok e k
theorem map_kept{w w':World}{bm g:Nat}{o:Obj}(h:w.heap[bm]? =some o)(hg:w.grownBy w' (some g))(hne:bm≠g):w'.heap[bm]? =some o:=
 (hg.block bm (Array.getElem?_eq_some_iff.1 h).1 (fun e=>hne (Option.some.inj e))).trans h
theorem map_below{w w':World}{bm:Nat}{o:Obj}(h:w.heap[bm]? =some o)(hb:Below w.heap.size w w'):w'.heap[bm]? =some o:=
 (hb.block bm (Array.getElem?_eq_some_iff.1 h).1).trans h
theorem map_put{w:World}{bm r:Nat}{o:Obj}(h:w.heap[bm]? =some o)(hne:bm≠r)(t:TypeId)(V:Array Value):(putB w r t V).heap[bm]? =some o:=map_kept h (putB_grown w r t V) hne
def ChRel(w0 w:World)(g:Nat)(A:Option Addr)(len cap:Nat)(ts:List Tok)(m:Nat)(ch:Nat→TE→Nat→PR TE)(RR:PR TE)(B be bm:Nat)(es:Array MapEntry)(f0:Nat)(f:Nat)(wr:World):Prop:=
  ∃(T:TE) (v:Nd) (k:Nat),Hid (ch f T k=RR)∧Hid (k≤ts.length∧8*(ts.length-k)+2≤f∧f≤f0)∧Hid (InA (fun b=>B≤b∧b≠be) wr T v)∧Hid (Blk wr be 57 #[.i v.h.kind,.i v.h.n,.i v.h.d,.string v.h.name,.i v.h.k,.l v.A v.len v.cap])∧Hid (Blk wr w.heap.size 57 #[.i 0,.i 0,.i 0,.string ⟨#[]⟩,.i 0,.sn])∧
    Hid (Env w0 g A len cap ts k m wr)∧Hid (w.grownBy wr (some g))∧Hid (wr.heap[bm]? =some (.map es 2))
theorem pChain(mg:Bool){w0 w:World}{g:Nat}{A:Option Addr}{len cap:Nat}{ts:List Tok}{k m:Nat}(h:Env w0 g A len cap ts k m w)(hk:k≤100001)(bm:Nat)(es:Array MapEntry)(opk:List UInt8→Int)(hop:∀l,0≤opk l∧opk l≤13)
 (LK:∀(w':World) (l:List UInt8),w'.heap[bm]? =some (.map es 2)→(Instr.lookup 184 (.map (some bm)) (.string ⟨l.toArray⟩) true).run Tryz.prog w'= .ok (.tuple #[.i (opk l),.b (opk l !=0)]) w')
 (hbm:w.heap[bm]? =some (.map es 2)) (hbg:bm≠g)
 (ch:Nat→TE→Nat→PR TE) (nx:Nat→Nat→PR TE) (hch:∀f e k,ch (f+1) e k=stepR ts opk (ch f) e k (nx f (k+1)))
 (hnk:∀f k b k2,nx f k= .ok b k2→k<k2∧k2≤ts.length) (hno:∀f k,8*(ts.length-k)+7≤f→nx f k≠ .out)
 (f0:Nat) (r:PR TE) (hr:r≠ .out) (hrk:∀T k1,r= .ok T k1→k1≤ts.length∧8*(ts.length-k1)+2≤f0)
 (K1:∀w',Env w0 g A len cap ts k m w'→Calls Tryz.prog (cond mg 115 150) #[.p g] w' (ExR w0 g A len cap ts m r w'))
 (K2:∀f k',f<f0→8*(ts.length-k')+7≤f→k'≤100001→∀w',Env w0 g A len cap ts k' m w'→Calls Tryz.prog (cond mg 115 151) #[.p g] w' (ExR w0 g A len cap ts m (nx f k') w')):
 Calls Tryz.prog 114 #[.p g,.func (.func (cond mg 115 150)) #[.p g] #[],.func (.func (cond mg 115 151)) #[.p g] #[],.map (some bm)] w (ExR w0 g A len cap ts m (chainR (ch f0) r) w):=by
 obtain⟨b9,ex⟩:=eX (mg)
 cases mg
 all_goals
  dsimp only[cond]at K1 K2 ⊢
  have dh:=hI K2;have di:=hI LK;have dj:=hI hch;have dk:=hI hnk;have dl:=hI hno;have dm:=hI (show ts.length≤100000 by rw[h.t.hl];exact h.t.hs);obtain⟨I,bc⟩:=eX (chainR (ch f0) r);have az:=hI bc;rw[←bc];have cl:=hI K1;clear K1 K2 LK hch hnk hno bc;have ey:bm<w.heap.size:=(Array.getElem?_eq_some_iff.1 hbm).1
  go_in
  go_upto_region 1 with(fail);generalize hw1:World.alloc _ _=w1;obtain⟨O1,Z⟩:=gn1 hw1;clear hw1;have a7:=hI (show some w.heap.size≠some g from fun e=>by have:=h.gl;injection e with e;omega)
  have bd:w.heap.size≠g:=fun e=>a7.o (by rw[e])
  have cm:w0.heap.size≤w.heap.size:=h.b.size;have ez:g<w.heap.size:=h.gl;have M:=hI (h.belowW O1.o);have aa:=hI (grown_of (some g) O1.o);have N:w.heap.size<w1.heap.size:=Z.o.lt;clear h;have bf:g<w1.heap.size:=M.o.gl;have M1:=hI (map_below hbm O1.o);clear hbm;have KC:=hI (cl.o w1 M.o)
  cases r with
  | out=>exact(hr rfl).elim
  | bad ln co er=>
   have u:=hI (show I= .bad ln co er from az.o);clear az;go_wp2_with fail;refine KC.o.mono ?_;rintro e w2 ⟨rfl,X⟩;go_wp2_with fail;rw[u.o]
   exact⟨rfl,exr_bad (hI (grown_tr aa.o X.o))⟩
  | ok T k1=>
   have u:=hI (show ch f0 T k1=I from az.o.symm);have a8:=hI (show k1≤ts.length∧8*(ts.length-k1)+2≤f0∧f0≤f0 from⟨(hrk T k1 rfl).1,(hrk T k1 rfl).2,Nat.le_refl _⟩);clear az hrk;go_wp2_with fail;refine KC.o.mono ?_;rintro e w2 ⟨v,rfl,cp,X,bh⟩;have bi:=hI (Z.o.grown X.o a7.o);have cq:=X;go_upto_region 2 with(fail);generalize hw3:World.alloc _ _=w3;obtain⟨Y,E3⟩:=gn1 hw3;clear hw3;have bk:=hI (InA.belowW (InA.weaken (InA.lt cp.o) (Q:=fun b=>w1.heap.size≤b∧b≠w2.heap.size) (fun b hb=>⟨hb.1,Nat.ne_of_lt hb.2⟩)) Y.o);have dn:w.heap.size<w2.heap.size:=bi.o.lt;have ab:w1.heap.size≤w2.heap.size:=cq.o.size;have dp:g<w2.heap.size:=bh.o.gl;obtain⟨x,cr⟩:=eX (w2.heap.size);rw[←cr]at ab E3 dn dp bk ⊢;clear cr;have a9:x≠g:=(by omega);have cs:w0.heap.size≤x:=(by omega);have ct:w.heap.size≤x:=(by omega);have cu:w.heap.size≠x:=(by omega);have cv:bm≠x:=(by omega);have cw:=hI (show some x≠some g from fun e=>a9 (Option.some.inj e));have cx:=N;clear N;have N:=cx;clear cx
   go_loopg [10,11] f0 (fun f d1 d2 wr=>ChRel w0 w g A len cap ts m ch I w1.heap.size x bm es f0 f wr)
   case atStart=>exact⟨T,v,k1,u,a8,bk,E3,(bi.o.b9 Y),(bh.o.b9 Y),(hI (grown_tr (grown_tr aa.o X.o) (grown_of (some g) Y.o))),(hI (map_below (map_kept M1.o X.o hbg) Y.o))⟩
   clear u a8 bk E3 Y cp bh bi KC cl aa M Z O1 M1 cq;obtain⟨E,v,a,dq,a8,dr,E1,Z,M,aa,dt⟩:=hrel;obtain⟨du,e0,e2⟩:=a8.o;have e3:=dm.o
   cases gk with
   | zero=>omega
   | succ f=>
    have o:=hI (show I=stepR ts opk (ch f) E a (nx f (a+1))from dq.o.symm.trans (dj.o f E a));have KT:=hI (fun(w':World) (hb:Below wr.heap.size wr w')=>Env.tok (show Env w0 g A len cap ts a m w' from M.o.belowW hb) 0 (by omega));simp only[Nat.add_zero]at KT;have bl:=@tk_lt ts a;have dv:=M.o.t.tk a;unfold stepR at o;obtain⟨J,cy⟩:=eX (tk ts a);rw[←cy]at KT o bl dv;have cz:=hop J.text;have bn:=hI (fun(w':World) (hh:w'.heap[bm]? =some (.map es 2))=>di.o w' J.text hh);obtain⟨i,c0⟩:=eX (opk J.text);rw[←c0]at bn o cz;have c1:=hI (hd_op cz)
    obtain⟨b,hb⟩:∃b,(i !=0)=b:=⟨_,rfl⟩
    have c2:=hI (show(i≠0)↔b=true by rw[←hb,bne_iff_ne]);rw[hb]at bn
    obtain⟨c,hc⟩:∃b,((J.kind:Int)!=3)=b:=⟨_,rfl⟩
    have c3:=hI (show(J.kind≠3)↔c=true by rw[←hc,bne_iff_ne];omega);clear cy c0 hb;have e4:=tokF0 J;have e5:=tokF1 J;go_wp2_with fail;refine(KT.o wr (Below.refl _ _)).mono ?_;rintro e w4 ⟨rfl,L⟩;have M4:=hI (map_below dt.o L.o);have dw:=bn.o w4 M4.o;have bo:=hI (show Env w0 g A len cap ts a m w4 from M.o.belowW L.o);have E4:=E1.o.b9 L;have F:=Z.o.b9 L;have bq:=dr.o.b9 L;have br:=hI (grown_tr aa.o (grown_of (some g) L.o))
    cases b with
    | false=>
     have u:=hI (show I= .ok E a by rw[o.o,if_neg (fun e=>by have:=c2.o.1 e.2;cases this)]);clear o;obtain⟨a0,b0,a1,b1,a2,b2,a3,b3,a4,b4,a5,b5⟩:=E4.o.all6;obtain⟨r0,h0,r1,h1,r2,h2,r3,h3,r4,h4,r5,h5⟩:=F.o.all6;go_wp2;rw[pst6 F.o];have z:=(F.o.put #[.i v.h.kind,.i v.h.n,.i v.h.d,.string v.h.name,.i v.h.k,.l v.A v.len v.cap]).cell;refine bodyPost_ret (v:= .agg #[.i v.h.kind,.i v.h.n,.i v.h.d,.string v.h.name,.i v.h.k,.l v.A v.len v.cap]) (by simp[results,Tryz.results114,go_sem,z]) rfl ?_;rw[u.o]
     exact⟨v,rfl,hI (InA.weaken (InA.far bq.o (fun e=>absurd e.1 (Nat.not_le_of_lt N)) _ _) (fun b hb=>Nat.le_trans (Nat.le_of_lt N) hb.1)),hI (grown_new br.o (Nat.le_refl _) _ _),hI (bo.o.far bd cm _ _)⟩
    | true=>
     cases c with
     | true=>
      have u:=hI (show I= .ok E a by rw[o.o,if_neg (fun e=>c3.o.2 (by first | rfl | trivial) e.1)]);clear o;go_wp2_with fail;refine(KT.o w4 L.o).mono ?_;rintro e w5 ⟨rfl,q⟩;have F:=F.o.b9 q;obtain⟨a0,b0,a1,b1,a2,b2,a3,b3,a4,b4,a5,b5⟩:=(E4.o.belowW q.o).all6;obtain⟨r0,h0,r1,h1,r2,h2,r3,h3,r4,h4,r5,h5⟩:=F.o.all6;go_wp2;rw[pst6 F.o];have z:=(F.o.put #[.i v.h.kind,.i v.h.n,.i v.h.d,.string v.h.name,.i v.h.k,.l v.A v.len v.cap]).cell;refine bodyPost_ret (v:= .agg #[.i v.h.kind,.i v.h.n,.i v.h.d,.string v.h.name,.i v.h.k,.l v.A v.len v.cap]) (by simp[results,Tryz.results114,go_sem,z]) rfl ?_;rw[u.o]
      exact⟨v,rfl,hI (InA.weaken (InA.far (bq.o.belowW q.o) (fun e=>absurd e.1 (Nat.not_le_of_lt N)) _ _) (fun b hb=>Nat.le_trans (Nat.le_of_lt N) hb.1)),hI (grown_new (grown_tr br.o (grown_of (some g) q.o)) (Nat.le_refl _) _ _),hI ((bo.o.belowW q.o).far bd cm _ _)⟩
     | false=>
      have c5:J.kind=3:=by
       apply Decidable.byContradiction
       intro h;have:=c3.o.1 h
       cases this
      have du:=bl (by omega);have o:=hI (o.o.trans (if_pos ⟨c5,c2.o.2 (by first | rfl | trivial)⟩));have KN:=hI (dh.o f (a+1) (by omega) (by omega) (by omega));have c6:=dl.o f (a+1) (by omega);have c7:=hI (dk.o f (a+1));obtain⟨r2,c8⟩:=eX (nx f (a+1));rw[←c8]at o KN c6 c7;clear c8 c5 bl;go_wp2_with fail;refine(KT.o w4 L.o).mono ?_;rintro e w5 ⟨rfl,q⟩;have c9:=bo.o.b9 q;have HP:=hI (show Blk w5 g 124 #[.l A len cap,.i (a:Nat),.i (m:Nat)]from c9.o.p);have e1:IntKind.i64.wrap ((a:Int)+1)=(a:Int)+1:=(by rw[IntKind.wrap_i64];omega);obtain⟨p0,en,p1,f1,p2,f2⟩:=HP.o.all3;go_upto_region 6 with(fail);rw[HP.o.setCell_eq];have ba:=hI (putB_grown w5 g 124 #[.l A len cap,.i ((a+1:Nat):Int),.i (m:Nat)]);have bu:=hI (c9.o.put (a+1) m (by omega));have E6:=hI ((E4.o.belowW q.o).far (t':=124) a9 #[.l A len cap,.i ((a+1:Nat):Int),.i (m:Nat)]);have F6:=hI ((F.o.belowW q.o).far (t':=124) bd #[.l A len cap,.i ((a+1:Nat):Int),.i (m:Nat)]);have db:=hI ((bq.o.belowW q.o).mv (fun e=>absurd e.1 (Nat.not_le_of_lt bf)) ba.o);have bw:=hI (grown_tr (grown_tr br.o (grown_of (some g) q.o)) ba.o);have M6:=hI (map_kept (map_below M4.o q.o) ba.o hbg);obtain⟨w6,bx⟩:=eX (putB w5 g 124 #[.l A len cap,.i ((a+1:Nat):Int),.i (m:Nat)]);have dd:putB w5 g 124 ((#[.l A len cap,.i (a:Nat),.i (m:Nat)]:Array Value).setIfInBounds 1 (.i ((a:Int)+1)))=w6:=(by rw[bx];rfl);rw[←bx]at bu E6 F6 db bw M6;rw[dd];clear bx dd p0 en p1 f1 p2 f2 HP ba dw
      cases r2 with
      | out=>exact(c6 rfl).elim
      | bad ln co er=>
       have u:=hI (show I= .bad ln co er from o.o);clear o;have s:=hI (below_dr w6);have B:=E6.o.b9 s;have C:=bu.o.b9 s;have O:=hI (grown_tr bw.o (grown_of (some g) s.o))
       refine wp_region_held_drew (S:=fun w'=>w'.cell? ⟨g,0,none⟩=some (.l A len cap)) (by kernel_rfl) (Blk.cell C.o.p 0) fun hHeld=>?_
       obtain⟨af,ag⟩:=eX (w6.drew);rw[←ag]at s B C O hHeld ⊢;clear ag;refine tkW 0 ?_;refine tkW 2 ?_;refine wpAnyH_ready (rs:=[1,3]) (by kernel_rfl) (by simp) ?_;refine(AllReadyH.cons rfl (fun K hK=>?_) (AllReadyH.cons rfl (fun K hK=>?_) AllReadyH.nil))
       ·
        obtain⟨ah,ai,aj,ak,al,am,an,ao,ap,aq,ar,au⟩:=B.o.all6;go_simp
        clear ah ai aj ak al am an ao ap aq ar au;clear hHeld
        refine hK.out _ _ (Blk.cell C.o.p 0) fun hHeld=>?_
        clear hK K
        try simp only[Lj,Lk,Lq]
        refine wr1 3 fun K hK=>?_
        go_simp
        (with_reducible refine(KN.o af C.o).mono ?_)
        rintro e w33 ⟨rfl,j⟩;clear hHeld;go_wp2_with fail;rw[u.o];exact⟨rfl,exr_bad (hI (grown_tr O.o j.o))⟩
       go_simp
       (with_reducible refine(KN.o af C.o).mono ?_)
       rintro e w32 ⟨rfl,j⟩;clear hHeld;go_wp2_with fail;rw[u.o]
       exact⟨rfl,exr_bad (hI (grown_tr O.o j.o))⟩
      | ok T1 k2=>
       have eu:=(c7.o T1 k2 rfl);have de:=hI (show ch f (.mk ⟨i,0,0,⟨#[]⟩,0⟩ [E,T1]) k2=I from o.o.symm);have df:=hI (show k2≤ts.length∧8*(ts.length-k2)+2≤f∧f≤f0 from⟨eu.2,by omega,by omega⟩);clear o;have s:=hI (below_dr w6);have bz:=F6.o.b9 s;have B:=E6.o.b9 s;have C:=bu.o.b9 s;have O:=hI (grown_tr bw.o (grown_of (some g) s.o));have b6:=db.o.b9 s;have b7:=hI (map_below M6.o s.o)
       refine wp_region_held_drew (S:=fun w'=>w'.cell? ⟨g,0,none⟩=some (.l A len cap)) (by kernel_rfl) (Blk.cell C.o.p 0) fun hHeld=>?_
       obtain⟨af,ag⟩:=eX (w6.drew);rw[←ag]at s bz B C O b6 b7 hHeld ⊢;clear ag;refine tkW 0 ?_;refine tkW 2 ?_;refine wpAnyH_ready (rs:=[1,3]) (by kernel_rfl) (by simp) ?_;refine(AllReadyH.cons rfl (fun K hK=>?_) (AllReadyH.cons rfl (fun K hK=>?_) AllReadyH.nil))
       ·
        obtain⟨ah,ai,aj,ak,al,am,an,ao,ap,aq,ar,au⟩:=B.o.all6;go_simp
        clear ah ai aj ak al am an ao ap aq ar au;clear hHeld
        refine hK.out _ _ (Blk.cell C.o.p 0) fun hHeld=>?_
        clear hK K
        try simp only[Lj,Lk,Lq]
        refine wr1 3 fun K hK=>?_
        go_simp
        (with_reducible refine(KN.o af C.o).mono ?_)
        rintro e w33 ⟨y,rfl,b8,j,ca⟩;have cb:=hI (B.o.grown j.o cw.o);have dg:=hI (ca.o);go_wp2_with fail;clear hHeld
        refine hK.out _ _ (Blk.cell dg.o.p 0) fun hHeld=>?_
        clear hK K
        try simp only[Lj,Lk,Lq]
        refine wr1 4 fun K hK=>?_
        go_simp;obtain⟨av,P,D,_⟩:=aX w33 57 #[.i v.h.kind,.i v.h.n,.i v.h.d,.string v.h.name,.i v.h.k,.l v.A v.len v.cap,.i y.h.kind,.i y.h.n,.i y.h.d,.string y.h.name,.i y.h.k,.l y.A y.len y.cap];have G:=cb.o.b9 D;have aw:=dg.o.b9 D;have cc:=hI (show InA (fun b=>w1.heap.size≤b∧b≠x) av (.mk ⟨i,0,0,⟨#[]⟩,0⟩ [E,T1]) ⟨⟨i,0,0,⟨#[]⟩,0⟩,some ⟨w33.heap.size,0,none⟩,2,2⟩by rw[P];exact ina_new2 w33 ⟨i,0,0,⟨#[]⟩,0⟩ c1.o E T1 v y _ ⟨Nat.le_trans ab (Nat.le_of_lt cb.o.lt),Nat.ne_of_gt cb.o.lt⟩ (b6.o.mv (fun e=>absurd e.1 (Nat.not_le_of_lt bf)) j.o) (InA.weaken b8.o (fun b hb=>⟨Nat.le_trans ab (Nat.le_trans (Nat.le_of_lt B.o.lt) hb),Nat.ne_of_gt (Nat.lt_of_lt_of_le B.o.lt hb)⟩)));rw[←P];clear P;clear hHeld
        refine hK.out _ _ (Blk.cell aw.o.p 0) fun hHeld=>?_
        clear hK K
        try simp only[Lj,Lk,Lq]
        refine tkW 5 ?_
        refine wr1 6 fun K hK=>?_
        have ps:=G.o.cell;have fs:=G.o.frozen;go_simp;rw[pst6 G.o];clear ps fs;have R:=hI (((bz.o.grown j.o a7.o).belowW D.o).far (t':=57) cu #[.i i,.i 0,.i 0,.string ⟨#[]⟩,.i 0,.l (some ⟨w33.heap.size,0,none⟩) 2 2]);have H:=hI (aw.o.far a9 cs 57 #[.i i,.i 0,.i 0,.string ⟨#[]⟩,.i 0,.l (some ⟨w33.heap.size,0,none⟩) 2 2]);have U:=hI (grown_new (grown_tr (grown_tr O.o j.o) (grown_of (some g) D.o)) ct 57 #[.i i,.i 0,.i 0,.string ⟨#[]⟩,.i 0,.l (some ⟨w33.heap.size,0,none⟩) 2 2]);have V:=hI (map_put (map_below (map_kept b7.o j.o hbg) D.o) cv 57 #[.i i,.i 0,.i 0,.string ⟨#[]⟩,.i 0,.l (some ⟨w33.heap.size,0,none⟩) 2 2]);obtain⟨cf,cg⟩:=eX (#[.i i,.i 0,.i 0,.string ⟨#[]⟩,.i 0,.l (some ⟨w33.heap.size,0,none⟩) 2 2]:Array Value);have ax:=hI (cc.o.far (fun e=>e.2 rfl) 57 cf);have W:=hI (G.o.put cf);obtain⟨ev,ay⟩:=eX (putB av (x) 57 cf);rw[←cg]at R H U V ⊢;rw[←ay]at R H U V ax W ⊢;clear ay hHeld;rw[cg]at W;clear cg
        refine hK.out _ _ (Blk.cell H.o.p 0) fun hHeld=>?_
        clear hK K
        try simp only[Lj,Lk,Lq]
        refine wpAnyH_done (by kernel_rfl) ?_ _;go_wp2
        go_roundg f
        case measure=>exact Nat.lt_succ_self f
        case rel=>exact⟨_,⟨⟨i,0,0,⟨#[]⟩,0⟩,some ⟨w33.heap.size,0,none⟩,2,2⟩,k2,de,df,ax,W,R,H,U,V⟩
       go_simp
       (with_reducible refine(KN.o af C.o).mono ?_)
       rintro e w32 ⟨y,rfl,b8,j,ca⟩;have bb:=hI (B.o.grown j.o cw.o);have ci:=hI (ca.o);go_wp2_with fail;clear hHeld
       refine hK.out _ _ (Blk.cell ci.o.p 0) fun hHeld=>?_
       clear hK K
       try simp only[Lj,Lk,Lq]
       refine wr1 1 fun K hK=>?_
       obtain⟨ah,ai,aj,ak,al,am,an,ao,ap,aq,ar,au⟩:=bb.o.all6;go_simp
       clear ah ai aj ak al am an ao ap aq ar au;clear hHeld
       refine hK.out _ _ (Blk.cell ci.o.p 0) fun hHeld=>?_
       clear hK K
       try simp only[Lj,Lk,Lq]
       refine wr1 4 fun K hK=>?_
       go_simp;obtain⟨av,P,D,_⟩:=aX w32 57 #[.i v.h.kind,.i v.h.n,.i v.h.d,.string v.h.name,.i v.h.k,.l v.A v.len v.cap,.i y.h.kind,.i y.h.n,.i y.h.d,.string y.h.name,.i y.h.k,.l y.A y.len y.cap];have G:=bb.o.b9 D;have aw:=ci.o.b9 D;have cc:=hI (show InA (fun b=>w1.heap.size≤b∧b≠x) av (.mk ⟨i,0,0,⟨#[]⟩,0⟩ [E,T1]) ⟨⟨i,0,0,⟨#[]⟩,0⟩,some ⟨w32.heap.size,0,none⟩,2,2⟩by rw[P];exact ina_new2 w32 ⟨i,0,0,⟨#[]⟩,0⟩ c1.o E T1 v y _ ⟨Nat.le_trans ab (Nat.le_of_lt bb.o.lt),Nat.ne_of_gt bb.o.lt⟩ (b6.o.mv (fun e=>absurd e.1 (Nat.not_le_of_lt bf)) j.o) (InA.weaken b8.o (fun b hb=>⟨Nat.le_trans ab (Nat.le_trans (Nat.le_of_lt B.o.lt) hb),Nat.ne_of_gt (Nat.lt_of_lt_of_le B.o.lt hb)⟩)));rw[←P];clear P;clear hHeld
       refine hK.out _ _ (Blk.cell aw.o.p 0) fun hHeld=>?_
       clear hK K
       try simp only[Lj,Lk,Lq]
       refine tkW 5 ?_
       refine wr1 6 fun K hK=>?_
       have ps:=G.o.cell;have fs:=G.o.frozen;go_simp;rw[pst6 G.o];clear ps fs;have R:=hI (((bz.o.grown j.o a7.o).belowW D.o).far (t':=57) cu #[.i i,.i 0,.i 0,.string ⟨#[]⟩,.i 0,.l (some ⟨w32.heap.size,0,none⟩) 2 2]);have H:=hI (aw.o.far a9 cs 57 #[.i i,.i 0,.i 0,.string ⟨#[]⟩,.i 0,.l (some ⟨w32.heap.size,0,none⟩) 2 2]);have U:=hI (grown_new (grown_tr (grown_tr O.o j.o) (grown_of (some g) D.o)) ct 57 #[.i i,.i 0,.i 0,.string ⟨#[]⟩,.i 0,.l (some ⟨w32.heap.size,0,none⟩) 2 2]);have V:=hI (map_put (map_below (map_kept b7.o j.o hbg) D.o) cv 57 #[.i i,.i 0,.i 0,.string ⟨#[]⟩,.i 0,.l (some ⟨w32.heap.size,0,none⟩) 2 2]);obtain⟨cj,ck⟩:=eX (#[.i i,.i 0,.i 0,.string ⟨#[]⟩,.i 0,.l (some ⟨w32.heap.size,0,none⟩) 2 2]:Array Value);have ax:=hI (cc.o.far (fun e=>e.2 rfl) 57 cj);have W:=hI (G.o.put cj);obtain⟨ev,ay⟩:=eX (putB av (x) 57 cj);rw[←ck]at R H U V ⊢;rw[←ay]at R H U V ax W ⊢;clear ay hHeld;rw[ck]at W;clear ck
       refine hK.out _ _ (Blk.cell H.o.p 0) fun hHeld=>?_
       clear hK K
       try simp only[Lj,Lk,Lq]
       refine wpAnyH_done (by kernel_rfl) ?_ _;go_wp2
       go_roundg f
       case measure=>exact Nat.lt_succ_self f
       case rel=>exact⟨_,⟨⟨i,0,0,⟨#[]⟩,0⟩,some ⟨w32.heap.size,0,none⟩,2,2⟩,k2,de,df,ax,W,R,H,U,V⟩
