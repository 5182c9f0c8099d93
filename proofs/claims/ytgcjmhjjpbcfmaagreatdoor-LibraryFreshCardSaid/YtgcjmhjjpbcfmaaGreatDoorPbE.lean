import Derived.Test.YtgcjmhjjpbcfmaaGreatDoorPbC
import Derived.Test.YtgcjmhjjpbcfmaaGreatDoorPbD
open List renaming setIfInBounds_toArray → Lj,set_cons_zero → Lk,set_cons_succ → Lq,getElem_toArray → Ly,getElem_cons_zero → Lz,getElem_cons_succ → Lv
set_option maxHeartbeats 4000000
set_option maxRecDepth 100000
namespace Go.Proofs.YtgcjmhjjpbcfmaaGreatDoor
open Go.RowKit Go.Fl Go.Fl.Lx Go.Fl.Nm Go.Fl.Fm Go.Fl.Rt Go.Fl.Pa
theorem pr_cases{α:Type}{r:PR α}(h:r≠ .out):(∃l c e,r= .bad l c e)∨∃a k,r= .ok a k:=by
 cases r with
 | ok a k=>exact .inr ⟨a,k,rfl⟩
 | bad l c e=>exact .inl ⟨l,c,e,rfl⟩
 | out=>exact absurd rfl h
theorem pst3{w:World}{g:Nat}{t:TypeId}{a b c:Value}(hB:Blk w g t #[a,b,c])(a' b' c':Value):
 ((w.setCell ⟨g,0,none⟩ a').setCell ⟨g,1,none⟩ b').setCell ⟨g,2,none⟩ c'=putB w g t #[a',b',c']:=by
 rw[show w.setCell ⟨g,0,none⟩ a'=putB w g t #[a',b,c]from hB.setCell_eq 0 a'];have h1:=hB.put #[a',b,c];rw[show(putB w g t #[a',b,c]).setCell ⟨g,1,none⟩ b'=putB (putB w g t #[a',b,c]) g t #[a',b',c]from h1.setCell_eq 1 b',putB_putB];have h2:=hB.put #[a',b',c];rw[show(putB w g t #[a',b',c]).setCell ⟨g,2,none⟩ c'=putB (putB w g t #[a',b',c]) g t #[a',b',c']from h2.setCell_eq 2 c',putB_putB]
theorem pst_3_2{w:World}{g:Nat}{t:TypeId}{a b c:Value}(hB:Blk w g t #[a,b,c])(x:Value):w.setCell ⟨g,2,none⟩ x=putB w g t #[a,b,x]:=hB.setCell_eq 2 x
theorem eqn_bind{β:Type}{ts:List Tok}{k:Nat}(f:EqP→Nat→PR β):(eqnP nameP ts k).bind f=(nmR nameP ts k).bind fun n k1=>(wantP ts false [39] k1).bind fun _ k2=>(wantP ts false [61] k2).bind fun _ k3=>(sumE nameP ts k3).bind fun e k4=>(wantP ts false [59] k4).bind fun _ k5=>f ⟨n,e⟩ k5:=by
 unfold eqnP;simp only[bind_assoc']
 rfl
theorem Tryz.infoEdge:(Tryz.prog.info? 94).map (fun i=>(i.zero,i.size,i.bytes))=some (some (.agg #[.i 0,.i 0,.i 0,.string ⟨#[]⟩,.i 0,.sn,.i 0,.string ⟨#[]⟩,.sn]),9,120):=by kernel_rfl
theorem Tryz.infoEqn:(Tryz.prog.info? 59).map (fun i=>(i.zero,i.size,i.bytes))=some (some (.agg #[.string ⟨#[]⟩,.i 0,.i 0,.i 0,.string ⟨#[]⟩,.i 0,.sn]),7,88):=by kernel_rfl
def MdV(d:MdP)(w:World)(e:Ending)(w':World):Prop:=∃x:MdN,e= .returned x.val∧x.pl=d∧Hid (PzM (fun b=>w.heap.size≤b) w' x)
theorem pMode{w0 w:World}{g:Nat}{A:Option Addr}{len cap:Nat}{ts:List Tok}{k:Nat}(h:Env w0 g A len cap ts k 0 w)(hk:k≤100000)(hR:RX w0)(hX:FX w0)(hD:DigTs ts):Calls Tryz.prog 55 #[.p g] w (PRP MdV w0 g A len cap ts 0 (modeP nameP ts k) w):=by
 obtain⟨p,ch⟩:=eX (modeP nameP ts k);have e4:=hI ch;rw[←ch];clear ch;have ga:ts.length≤100000:=(by have:=h.t.hl;have:=h.t.hs;omega)
 go_in
 go_upto_region 1 with(fail);generalize hw1:World.alloc _ _=w1;obtain⟨O1,F1⟩:=gn1 hw1;clear hw1;have I:=hI (show some w.heap.size≠some g from fun e=>by have:=h.gl;injection e with e;omega)
 have e6:w.heap.size≠g:=fun e=>I.o (by rw[e])
 have bt:w0.heap.size≤w.heap.size:=h.b.size;have e7:=hI (h.belowW O1.o);have df:=hI (grown_of (some g) O1.o);clear h;have dg:=hI (show p=(nmR nameP ts k).bind fun n k1=>(wantP ts false [123] k1).bind fun _ k2=>(bodyP nameP ts (ts.length+1) k2 [] []).bind fun b k3=> .ok ⟨n,b.1,b.2⟩ k3 from e4.o);have i:=hI (pNm e7.o (by omega))
 cases hn1:nmR nameP ts k with
 | out=>
  rw[hn1]at i;clear hn1;go_wp2_with fail;refine i.o.mono ?_;rintro e w9 l
  exact l.elim
 | bad C D E=>
  rw[hn1]at i;have F:=hI (show p= .bad C D E by rw[dg.o,hn1]<;>rfl);clear hn1;go_wp2_with fail;refine i.o.mono ?_;rintro e w9 ⟨rfl,B⟩;go_wp2_with fail;rw[F.o]
  exact⟨rfl,prp_bad (hI (grown_tr df.o B.o))⟩
 | ok n k1=>
  rw[hn1]at i;have gb:=(nmR_fw (nm:=nameP) (ts:=ts) k) _ _ hn1;have dh:=hI (show p=(wantP ts false [123] k1).bind fun _ k2=>(bodyP nameP ts (ts.length+1) k2 [] []).bind fun b k3=> .ok ⟨n,b.1,b.2⟩ k3 by rw[dg.o,hn1]<;>rfl);have gc:=nmR_len hn1;clear hn1;go_wp2_with fail;refine i.o.mono ?_;rintro e wq1 ⟨l,di,ci⟩
  cases l
  have dj:=hI (F1.o.grown di.o I.o);go_upto_region 2 with(fail);generalize o:World.alloc _ _=wb2;obtain⟨cj,dk⟩:=gn1 o;clear o;obtain⟨m,bu⟩:=eX (wq1.heap.size);have G:=hI (show some m≠some g from fun e=>by have:=ci.o.gl;injection e with e;omega);have bv:w.heap.size<m:=(by rw[bu];exact dj.o.lt);rw[←bu]at dk ⊢;have gd:g<m:=(by rw[bu];exact ci.o.gl);clear bu;have dl:=hI (grown_tr (grown_tr df.o di.o) (grown_of (some g) cj.o));have i:=hI (pWant (ci.o.belowW cj.o) (by omega) [123] false (by decide))
  cases hn3:wantP ts false [123] k1 with
  | out=>
   rw[hn3]at i;clear hn3;go_wp2_with fail;refine i.o.mono ?_;rintro e w9 l
   exact l.elim
  | bad C D E=>
   rw[hn3]at i;have F:=hI (show p= .bad C D E by rw[dh.o,hn3]<;>rfl);clear hn3;go_wp2_with fail;refine i.o.mono ?_;rintro e w9 ⟨rfl,B⟩;go_wp2_with fail;rw[F.o]
   exact⟨rfl,prp_bad (hI (grown_tr dl.o B.o))⟩
  | ok u2 k2=>
   rw[hn3]at i;have ge:=(want_fw (ts:=ts) false [123] k1) _ _ hn3;have e8:=hI (show p=(bodyP nameP ts (ts.length+1) k2 [] []).bind fun b k3=> .ok ⟨n,b.1,b.2⟩ k3 by rw[dh.o,hn3]<;>rfl);clear hn3;go_wp2_with fail;refine i.o.mono ?_;rintro e wq3 ⟨l,ck,e9⟩
   cases l
   go_wp2
   go_loopg [] (ts.length+1) (fun fu wr=>∃(y:Nat) (q:List EqN) (s:List EdN) (Q M:Value),Hid (p=(bodyP nameP ts fu y (q.map EqN.pl) (s.map EdN.pl)).bind fun b k3=> .ok ⟨n,b.1,b.2⟩ k3)∧y≤ts.length∧ts.length<fu+y∧q.length≤y∧s.length≤y∧Hid (Env w0 g A len cap ts y 0 wr)∧Hid (w.grownBy wr (some g))∧Hid (Blk wr w.heap.size 50 #[.string ⟨#[]⟩,.sn,.sn])∧Hid (Blk wr m 50 #[.string ⟨n.toArray⟩,Q,M])∧Hid (Mk2 59 7 EqN.cells PzQ 94 9 EdN.cells PzG (m+1) wr Q q M s))
   case atStart=>exact⟨k2,[],[],.sn,.sn,e8,by omega,by omega,by simp,by simp,e9,(hI (grown_tr dl.o ck.o)),(hI ((dj.o.belowW cj.o).grown ck.o I.o)),(hI (dk.o.grown ck.o G.o)),hI (Mk2.nil _ _ _ _ _ _ _ _ _ _)⟩
   obtain⟨y,q,s,Q,M,HQ,gf,gg,gh,gi,fa,dm,dn,bw,an⟩:=hrel
   cases gk with
   | zero=>exfalso;omega
   | succ fu=>
    have dp:=hI (World.grownBy.refl wr (some g));have fb:m<wr.heap.size:=bw.o.lt
    have bx:∀kb,Q.ownBlock=some kb→m+1≤kb∧kb<wr.heap.size:=fun kb h=>an.o.a.own.lt kb h
    have bz:∀kb,M.ownBlock=some kb→m+1≤kb∧kb<wr.heap.size:=fun kb h=>an.o.b.own.lt kb h
    have a2:=hI (pAccept fa.o (by omega) ⟨#[125]⟩);rw[show kwP (⟨#[125]⟩:ByteArray).data.toList=false by decide,show(⟨#[125]⟩:ByteArray).data.toList=[125]from rfl]at a2
    cases hb61:isS false ts y [125]with
    | true=>
     have gj:=isS_lt hb61;rw[hb61]at a2;have fc:=hI (show p= .ok ⟨n,q.map EqN.pl,s.map EdN.pl⟩ (y+1)by rw[HQ.o,bodyP,hb61,if_pos rfl];rfl);clear hb61;go_wp2_with fail;refine a2.o.mono ?_;rintro e wa61 ⟨rfl,R,a3⟩;simp only[if_true]at a3;have ah:=hI (dn.o.grown R.o I.o);have dq:=hI (an.o.moved pzQ pzG (.inr ⟨g,rfl,by omega⟩) (grown_tr dp.o R.o));obtain⟨A5,c5,B5,d5,fd,fe,dr,ds⟩:=dq.o.lies pzQ pzG;have ff:=hI dr;have fg:=hI ds;clear dr ds dq an bx bz;subst fd fe
     have fh:(⟨n.toArray⟩:ByteArray).size≤maxLen:=by
      show n.toArray.size≤_
      rw[List.size_toArray];unfold maxLen
      omega
     go_upto_region 12 with(fail);have cr:=ah.o.cell;have fr:=ah.o.frozen;have cx:=(bw.o.grown R.o G.o).cell;have fx:=(bw.o.grown R.o G.o).frozen;go_wp2;rw[pst3 ah.o];have z:=(ah.o.put #[.string ⟨n.toArray⟩,.l A5 q.length c5,.l B5 s.length d5]).cell;refine bodyPost_ret (v:= .agg #[.string ⟨n.toArray⟩,.l A5 q.length c5,.l B5 s.length d5]) (by simp[results,Tryz.results55,go_sem,z]) rfl ?_;rw[fc.o]
     exact⟨⟨⟨⟨n.toArray⟩,A5,q.length,c5,q,B5,s.length,d5,s⟩,rfl,rfl,hI ⟨fh,((ff.o.mv pzQ (r:=some w.heap.size) (fun b hb e=>by injection e with e;omega) (putB_grown _ _ _ _)).weaken pzQ (fun b hb=>by omega)),((fg.o.mv pzG (r:=some w.heap.size) (fun b hb e=>by injection e with e;omega) (putB_grown _ _ _ _)).weaken pzG (fun b hb=>by omega))⟩⟩,hI (grown_new (grown_tr dm.o R.o) (Nat.le_refl _) _ _),hI (a3.o.far e6 bt _ _)⟩
    | false=>
     rw[hb61]at a2;have b2:=hb61;clear hb61;go_wp2_with fail;refine a2.o.mono ?_;rintro e wa61 ⟨rfl,R,a3⟩;simp only[Bool.false_eq_true,if_false]at a3;have dt:=hI (grown_tr dm.o R.o);have ah:=hI (dn.o.grown R.o I.o);have du:=hI (bw.o.grown R.o G.o);have dv:=hI (grown_tr dp.o R.o);have a4:=hI (pAccept a3.o (by omega) ⟨#[119,104,101,110]⟩);rw[show kwP (⟨#[119,104,101,110]⟩:ByteArray).data.toList=true by decide,show(⟨#[119,104,101,110]⟩:ByteArray).data.toList=kWhen from rfl]at a4
     cases hb63:isS true ts y kWhen with
     | true=>
      have go:=isS_lt hb63;rw[hb63]at a4;have dw:=hI (show p=(edgeP nameP ts (y+1)).bind fun x k1=>(bodyP nameP ts fu k1 (q.map EqN.pl) (s.map EdN.pl++[x])).bind fun b k3=> .ok ⟨n,b.1,b.2⟩ k3 by rw[HQ.o,bodyP,b2,if_neg (by decide),hb63,if_pos rfl];exact bind_assoc' _ _ _);clear hb63;go_wp2_with fail;refine a4.o.mono ?_;rintro e wa63 ⟨rfl,U,ao⟩;simp only[if_true]at ao;have a5:=hI (grown_tr dt.o U.o);have dx:=hI (du.o.grown U.o G.o);have dy:=hI (grown_tr dv.o U.o);clear b2;have fi:=hI (an.o.moved pzQ pzG (.inr ⟨g,rfl,by omega⟩) dy.o)
      have V:∀b,M.ownBlock=some b→m+1≤b:=fun b h=>(bz b h).1
      go_upto_region 5 with(fail);obtain⟨C,D,E,Z⟩ | ⟨x,k9,Z⟩:=pr_cases (edge_no (nm:=nameP) (ts:=ts) (y+1))
      ·
       have F:=hI (show p= .bad C D E by rw[dw.o,Z]<;>rfl);have i:=hI (fun(w':World) (h':Env w0 g A len cap ts (y+1) 0 w')=>by have h9:=pEdge h' (by omega) hR hX hD;rw[Z]at h9;exact h9);clear Z;have b3:=hI (below_dr wa63);have dz:=ao.o.b9 b3;have d0:=hI (grown_tr a5.o (grown_of (some g) b3.o));have d1:=dx.o.b9 b3
       refine wp_region_held_drew (S:=fun w'=>cz3 w' m (.string ⟨n.toArray⟩) (Q) (M)) (by kernel_rfl) d1.o.cz3 fun hHeld=>?_
       obtain⟨fj,a7⟩:=eX (wa63.drew);rw[←a7]at b3 dz d0 d1 hHeld ⊢;clear a7;refine tkW 0 ?_;refine tkW 1 ?_;refine tkW 2 ?_
       refine wr1 3 fun K hK=>?_
       go_simp
       (with_reducible refine(i.o fj dz.o).mono ?_)
       rintro e w1502 ⟨rfl,B⟩;clear hHeld;go_wp2_with fail;rw[F.o];exact⟨rfl,prp_bad (hI (grown_tr d0.o B.o))⟩
      have fk:=(edge_fw (nm:=nameP) (ts:=ts) (y+1)) _ _ Z;have b4:=hI (show p=(bodyP nameP ts fu k9 (q.map EqN.pl) (s.map EdN.pl++[x])).bind fun b k3=> .ok ⟨n,b.1,b.2⟩ k3 by rw[dw.o,Z]<;>rfl);have i:=hI (fun(w':World) (h':Env w0 g A len cap ts (y+1) 0 w')=>by have h9:=pEdge h' (by omega) hR hX hD;rw[Z]at h9;exact h9);clear Z;have ai:=hI (below_dr wa63);have cs:=ao.o.b9 ai;have ct:=hI (grown_tr a5.o (grown_of (some g) ai.o));have a8:=hI ((ah.o.grown U.o I.o).belowW ai.o);have a9:=dx.o.b9 ai;have cu:=hI (fi.o.belowW pzQ pzG ai.o);have ba:=hI (Nat.le_trans (show wr.heap.size≤wa63.heap.size from dy.o.size) ai.o.size)
      refine wp_region_held_drew (S:=fun w'=>w'.cell? ⟨w.heap.size,0,none⟩=some (.string ⟨#[]⟩)) (by kernel_rfl) (a8.o.cell 0) fun hHeld=>?_
      obtain⟨d2,a7⟩:=eX (wa63.drew);rw[←a7]at ai cs ct a8 a9 cu ba hHeld ⊢;clear a7;refine tkW 0 ?_;refine tkW 2 ?_;refine wpAnyH_ready (rs:=[1,3]) (by kernel_rfl) (by simp) ?_;refine(AllReadyH.cons rfl (fun K hK=>?q1511_1) (AllReadyH.cons rfl (fun K hK=>?q1511_2) AllReadyH.nil))
      case' q1511_1=>
       have la:=a9.o.cell;have lb:=a9.o.frozen;go_simp
       clear la lb;clear hHeld
       refine hK.out _ _ (a8.o.cell 0) fun hHeld=>?_
       clear hK K
       try simp only[Lj,Lk,Lq]
       refine wr1 3 fun K hK=>?_
       go_simp
       (with_reducible refine(i.o d2 cs.o).mono ?_)
       rintro e N ⟨⟨j,rfl,bd,cv⟩,J,be⟩;have ap:=hI (be.o);have aq:=hI (grown_tr ct.o J.o);have T:=hI (a8.o.grown J.o I.o);have bf:=hI (a9.o.grown J.o G.o);have ar:=hI (cu.o.moved pzQ pzG (.inr ⟨g,rfl,by omega⟩) J.o);have bg:=hI (Nat.le_trans ba.o J.o.size);have cw:=hI (show PzG (fun b=>wr.heap.size≤b∧b<N.heap.size) N (j)from pzG.weaken (pzG.lt cv.o) (fun b hb=>⟨Nat.le_trans ba.o hb.1,hb.2⟩));have d3:=hI bd;clear bd;go_wp2_with fail;clear hHeld
       refine hK.out _ _ (T.o.cell 0) fun hHeld=>?_
       clear hK K
       try simp only[Lj,Lk,Lq]
       refine wr1 4 fun K hK=>?_
       go_simp;obtain⟨W,O,H,_⟩:=aX N 94 #[.i j.v.h.kind,.i j.v.h.n,.i j.v.h.d,.string j.v.h.name,.i j.v.h.k,.l j.v.A j.v.len j.v.cap,.i j.dir,.string j.tn,.l j.A j.len j.cap];have bh:=T.o.b9 H;have cz:=hI (show PzG (fun b=>wr.heap.size≤b∧b<W.heap.size) W (j)from pzG.weaken (pzG.lt (pzG.mv cw.o (fun b hb e=>by cases e) (grown_none (Nat.le_refl _) H.o))) (fun b hb=>⟨hb.1.1,hb.2⟩));have c0:=hI (show Blk W N.heap.size 94 (EdN.cells (j)).toArray by rw[O];exact Blk.new _ _ _);rw[←O];clear O;clear hHeld
       refine hK.out _ _ (bh.o.cell 0) fun hHeld=>?_
       clear hK K
       try simp only[Lj,Lk,Lq]
       obtain⟨d4,aa⟩:=eX (W);have au:=(ap.o.b9 H);have av:=(hI (grown_tr aq.o (grown_of (some g) H.o)));have aw:=bh;have ax:=(bf.o.b9 H);have aj:=(hI (ar.o.belowW pzQ pzG H.o));have ak:=(hI (Nat.le_trans bg.o H.o.size));have ay:=cz;have X:=c0;rw[←aa]at au av aw ax aj ak ay X hHeld ⊢;clear aa;obtain⟨c1,ab⟩:=eX (N.heap.size);rw[←ab]at X ⊢;clear ab
      case' q1511_2=>
       go_simp
       (with_reducible refine(i.o d2 cs.o).mono ?_)
       rintro e w1512 ⟨⟨j,rfl,bd,cv⟩,L,be⟩;have b5:=hI (be.o);have b6:=hI (grown_tr ct.o L.o);have al:=hI (a8.o.grown L.o I.o);have Y:=hI (a9.o.grown L.o G.o);have d6:=hI (cu.o.moved pzQ pzG (.inr ⟨g,rfl,by omega⟩) L.o);have d7:=hI (Nat.le_trans ba.o L.o.size);have d8:=hI (show PzG (fun b=>wr.heap.size≤b∧b<w1512.heap.size) w1512 (j)from pzG.weaken (pzG.lt cv.o) (fun b hb=>⟨Nat.le_trans ba.o hb.1,hb.2⟩));have d3:=hI bd;clear bd;go_wp2_with fail;clear hHeld
       refine hK.out _ _ (al.o.cell 0) fun hHeld=>?_
       clear hK K
       try simp only[Lj,Lk,Lq]
       refine wpAnyH_ready (rs:=[1,4]) (by kernel_rfl) (by simp) ?_;refine(AllReadyH.cons rfl (fun K hK=>?q1511_3) (AllReadyH.cons rfl (fun K hK=>?q1511_4) AllReadyH.nil))
       case' q1511_3=>
        have la:=Y.o.cell;have lb:=Y.o.frozen;go_simp
        clear la lb;clear hHeld
        refine hK.out _ _ (al.o.cell 0) fun hHeld=>?_
        clear hK K
        try simp only[Lj,Lk,Lq]
        refine wr1 4 fun K hK=>?_
        go_simp;obtain⟨W,O,H,_⟩:=aX w1512 94 #[.i j.v.h.kind,.i j.v.h.n,.i j.v.h.d,.string j.v.h.name,.i j.v.h.k,.l j.v.A j.v.len j.v.cap,.i j.dir,.string j.tn,.l j.A j.len j.cap];have bh:=al.o.b9 H;have cz:=hI (show PzG (fun b=>wr.heap.size≤b∧b<W.heap.size) W (j)from pzG.weaken (pzG.lt (pzG.mv d8.o (fun b hb e=>by cases e) (grown_none (Nat.le_refl _) H.o))) (fun b hb=>⟨hb.1.1,hb.2⟩));have c0:=hI (show Blk W w1512.heap.size 94 (EdN.cells (j)).toArray by rw[O];exact Blk.new _ _ _);rw[←O];clear O;clear hHeld
        refine hK.out _ _ (bh.o.cell 0) fun hHeld=>?_
        clear hK K
        try simp only[Lj,Lk,Lq]
        obtain⟨d4,aa⟩:=eX (W);have au:=(b5.o.b9 H);have av:=(hI (grown_tr b6.o (grown_of (some g) H.o)));have aw:=bh;have ax:=(Y.o.b9 H);have aj:=(hI (d6.o.belowW pzQ pzG H.o));have ak:=(hI (Nat.le_trans d7.o H.o.size));have ay:=cz;have X:=c0;rw[←aa]at au av aw ax aj ak ay X hHeld ⊢;clear aa;obtain⟨c1,ab⟩:=eX (w1512.heap.size);rw[←ab]at X ⊢;clear ab
       case' q1511_4=>
        go_simp;obtain⟨N,O,J,_⟩:=aX w1512 94 #[.i j.v.h.kind,.i j.v.h.n,.i j.v.h.d,.string j.v.h.name,.i j.v.h.k,.l j.v.A j.v.len j.v.cap,.i j.dir,.string j.tn,.l j.A j.len j.cap];have ap:=b5.o.b9 J;have aq:=hI (grown_tr b6.o (grown_of (some g) J.o));have T:=al.o.b9 J;have bf:=Y.o.b9 J;have ar:=hI (d6.o.belowW pzQ pzG J.o);have bg:=hI (Nat.le_trans d7.o J.o.size);have cw:=hI (show PzG (fun b=>wr.heap.size≤b∧b<N.heap.size) N (j)from pzG.weaken (pzG.lt (pzG.mv d8.o (fun b hb e=>by cases e) (grown_none (Nat.le_refl _) J.o))) (fun b hb=>⟨hb.1.1,hb.2⟩));have fm:=hI (show Blk N w1512.heap.size 94 (EdN.cells (j)).toArray by rw[O];exact Blk.new _ _ _);rw[←O];clear O;clear hHeld
        refine hK.out _ _ (T.o.cell 0) fun hHeld=>?_
        clear hK K
        try simp only[Lj,Lk,Lq]
        refine wr1 1 fun K hK=>?_
        have la:=bf.o.cell;have lb:=bf.o.frozen;go_simp
        clear la lb;clear hHeld
        refine hK.out _ _ (T.o.cell 0) fun hHeld=>?_
        clear hK K
        try simp only[Lj,Lk,Lq]
        obtain⟨d4,aa⟩:=eX (N);have au:=ap;have av:=aq;have aw:=T;have ax:=bf;have aj:=ar;have ak:=bg;have ay:=cw;have X:=fm;rw[←aa]at au av aw ax aj ak ay X hHeld ⊢;clear aa;obtain⟨c1,ab⟩:=eX (w1512.heap.size);rw[←ab]at X ⊢;clear ab
      all_goals
       refine wr1 5 fun K hK=>?_
       obtain⟨i0,ti,bj,bk,bl⟩:=info_parts Tryz.infoEdge;have d9:∀u∈EdN.cells (j),u.oneCell'=true:=(by simp[EdN.cells,Value.oneCell'])
       refine if_wanted (by rfl) ?_;refine oper_append_mk _ _ _ rfl (avd_ok pzG) EdN.len9 rfl aj.o.b (show Avd (Own Q) PzG _ _ _ from pzG.weaken ay.o (fun b hb=>⟨⟨by omega,hb.2,fun e=>by have:=bz b e.symm;omega⟩,fun e=>by have:=bx b e;omega⟩)) i0 _ 120 Tryz.underlying48 ti bj bk bl rfl (by omega) (by omega) (by omega) c1 _ rfl X.o d9 (Nat.le_trans fb ak.o) ?_;intro v9 w1512 hmk hgr hob;have b8:=hI hmk;have L:=hI hgr;have fn:=hI hob;clear hmk hgr hob ti bj bk bl i0 d9;obtain⟨A9,c9,bm,_⟩:=b8.o.lies (avd_ok pzG);obtain⟨L9,bn⟩:=eX ((s++[j]).length);rw[←bn]at bm;clear bn;subst bm
       try simp only[Act.put,Lj]
       have b5:=hI (env_row au.o L.o (fun b h=>by have:=V b h;omega));have b6:=hI (grown_row av.o L.o (fun b h=>by have:=V b h;omega));have al:=hI (aw.o.grown L.o (fun e=>by have:=V _ e.symm;omega));have Y:=hI (ax.o.grown L.o (fun e=>by have:=V _ e.symm;omega));clear hHeld
       refine hK.out _ _ (al.o.cell 0) fun hHeld=>?_
       clear hK K
       try simp only[Lj,Lk,Lq]
       refine tkW 6 ?_
       refine wr1 7 fun K hK=>?_
       have ps:=Y.o.cell;have fs:=Y.o.frozen;go_simp;rw[pst_3_2 Y.o];clear ps fs;obtain⟨am,c2⟩:=eX (#[.string ⟨n.toArray⟩,Q,.l A9 L9 c9]:Array Value);have ap:=hI (b5.o.far (r:=m) (fun e=>G.o (by rw[e])) (Nat.le_trans bt (Nat.le_of_lt bv)) 50 am);have aq:=hI (grown_new b6.o (Nat.le_of_lt bv) 50 am);have T:=hI (al.o.far (g':=m) (t':=50) (by omega) am);have ar:=hI (((Mk2.pushed pzQ aj.o.swap b8.o L.o fn.o).swap).moved pzQ pzG (.inr ⟨m,rfl,by omega⟩) (putB_grown w1512 m 50 am));have bg:=hI (show wr.heap.size≤(putB w1512 m 50 am).heap.size by rw[putB_size];exact(Nat.le_trans ak.o L.o.size));have c3:=hI (Y.o.put am);obtain⟨N,o⟩:=eX (putB w1512 (m) 50 am)
       try rw[←o]at ap
       try rw[←o]at aq
       try rw[←o]at T
       try rw[←o]at ar
       try rw[←o]at bg
       try rw[←o]at c3
       rw[←c2];rw[←o];clear o hHeld;rw[c2]at c3;clear c2
       refine hK.out _ _ (T.o.cell 0) fun hHeld=>?_
       clear hK K
       try simp only[Lj,Lk,Lq]
       refine wpAnyH_done (by kernel_rfl) ?_ _;go_wp2
       go_roundg fu
       case measure=>omega
       case rel=>exact⟨k9,q,s++[j],Q,.l A9 L9 c9,hI (by rw[b4.o,List.map_append,←d3.o];rfl),by omega,by omega,by omega,by rw[List.length_append];show s.length+1≤_;omega,ap,aq,T,c3,ar⟩
     | false=>
      rw[hb63]at a4;have ea:=hI (show p=(nmR nameP ts y).bind fun n2 k6=>(wantP ts false [39] k6).bind fun _ k7=>(wantP ts false [61] k7).bind fun _ k8=>(sumE nameP ts k8).bind fun e2 k9=>(wantP ts false [59] k9).bind fun _ k10=>(bodyP nameP ts fu k10 (q.map EqN.pl++[⟨n2,e2⟩]) (s.map EdN.pl)).bind fun b k3=> .ok ⟨n,b.1,b.2⟩ k3 by rw[HQ.o,bodyP,b2,if_neg (by decide),hb63,if_neg (by decide),bind_assoc',eqn_bind]);clear hb63;go_wp2_with fail;refine a4.o.mono ?_;rintro e wa63 ⟨rfl,U,ao⟩;simp only[Bool.false_eq_true,if_false]at ao;have a5:=hI (grown_tr dt.o U.o);clear b2;have i:=hI (pNm ao.o (by omega))
      cases hn65:nmR nameP ts y with
      | out=>
       rw[hn65]at i;clear hn65;go_wp2_with fail;refine i.o.mono ?_;rintro e w9 l
       exact l.elim
      | bad C D E=>
       rw[hn65]at i;have F:=hI (show p= .bad C D E by rw[ea.o,hn65]<;>rfl);clear hn65;go_wp2_with fail;refine i.o.mono ?_;rintro e w9 ⟨rfl,B⟩;go_wp2_with fail;rw[F.o]
       exact⟨rfl,prp_bad (hI (grown_tr a5.o B.o))⟩
      | ok n2 k6=>
       rw[hn65]at i;have fk:=(nmR_fw (nm:=nameP) (ts:=ts) y) _ _ hn65;have b4:=hI (show p=(wantP ts false [39] k6).bind fun _ k7=>(wantP ts false [61] k7).bind fun _ k8=>(sumE nameP ts k8).bind fun e2 k9=>(wantP ts false [59] k9).bind fun _ k10=>(bodyP nameP ts fu k10 (q.map EqN.pl++[⟨n2,e2⟩]) (s.map EdN.pl)).bind fun b k3=> .ok ⟨n,b.1,b.2⟩ k3 by rw[ea.o,hn65]<;>rfl);have gp:=nmR_len hn65;clear hn65;go_wp2_with fail;refine i.o.mono ?_;rintro e wq65 ⟨l,ca,eb⟩
       cases l
       have ec:=hI ((ah.o.grown U.o I.o).grown ca.o I.o);have ee:=hI ((du.o.grown U.o G.o).grown ca.o G.o);have ef:=hI (grown_tr (grown_tr dv.o U.o) ca.o);go_upto_region 7 with(fail);generalize o:World.alloc _ _=wb66;obtain⟨bo,eg⟩:=gn1 o;clear o;obtain⟨P,bp⟩:=eX (wq65.heap.size);have az:=hI (show some P≠some g from fun e=>by have:=eb.o.gl;injection e with e;omega);have eh:w.heap.size<P:=(by rw[bp];exact ec.o.lt);rw[←bp]at eg ⊢;have gq:wr.heap.size≤P:=(by rw[bp];exact ef.o.size);have gr:m<P:=(by rw[bp];exact ee.o.lt);clear bp;have ei:=hI (grown_tr (grown_tr a5.o ca.o) (grown_of (some g) bo.o));have i:=hI (pWant (eb.o.belowW bo.o) (by omega) [39] false (by decide))
       cases hn67:wantP ts false [39] k6 with
       | out=>
        rw[hn67]at i;clear hn67;go_wp2_with fail;refine i.o.mono ?_;rintro e w9 l
        exact l.elim
       | bad C D E=>
        rw[hn67]at i;have F:=hI (show p= .bad C D E by rw[b4.o,hn67]<;>rfl);clear hn67;go_wp2_with fail;refine i.o.mono ?_;rintro e w9 ⟨rfl,B⟩;go_wp2_with fail;rw[F.o]
        exact⟨rfl,prp_bad (hI (grown_tr ei.o B.o))⟩
       | ok u3 k7=>
        rw[hn67]at i;have gs:=(want_fw (ts:=ts) false [39] k6) _ _ hn67;have ej:=hI (show p=(wantP ts false [61] k7).bind fun _ k8=>(sumE nameP ts k8).bind fun e2 k9=>(wantP ts false [59] k9).bind fun _ k10=>(bodyP nameP ts fu k10 (q.map EqN.pl++[⟨n2,e2⟩]) (s.map EdN.pl)).bind fun b k3=> .ok ⟨n,b.1,b.2⟩ k3 by rw[b4.o,hn67]<;>rfl);clear hn67;go_wp2_with fail;refine i.o.mono ?_;rintro e wq67 ⟨l,bq,fq⟩
        cases l
        have ek:=hI (grown_tr ei.o bq.o);have i:=hI (pWant fq.o (by omega) [61] false (by decide))
        cases hn68:wantP ts false [61] k7 with
        | out=>
         rw[hn68]at i;clear hn68;go_wp2_with fail;refine i.o.mono ?_;rintro e w9 l
         exact l.elim
        | bad C D E=>
         rw[hn68]at i;have F:=hI (show p= .bad C D E by rw[ej.o,hn68]<;>rfl);clear hn68;go_wp2_with fail;refine i.o.mono ?_;rintro e w9 ⟨rfl,B⟩;go_wp2_with fail;rw[F.o]
         exact⟨rfl,prp_bad (hI (grown_tr ek.o B.o))⟩
        | ok u4 k8=>
         rw[hn68]at i;have gt:=(want_fw (ts:=ts) false [61] k7) _ _ hn68;have el:=hI (show p=(sumE nameP ts k8).bind fun e2 k9=>(wantP ts false [59] k9).bind fun _ k10=>(bodyP nameP ts fu k10 (q.map EqN.pl++[⟨n2,e2⟩]) (s.map EdN.pl)).bind fun b k3=> .ok ⟨n,b.1,b.2⟩ k3 by rw[ej.o,hn68]<;>rfl);clear hn68;go_wp2_with fail;refine i.o.mono ?_;rintro e wq68 ⟨l,br,em⟩
         cases l
         have en:=hI (grown_tr ek.o br.o);have eo:=hI ((eg.o.grown bq.o az.o).grown br.o az.o);have i:=hI (pSumE em.o (by omega) hR hX hD)
         cases hn69:sumE nameP ts k8 with
         | out=>
          rw[hn69]at i;clear hn69;go_wp2_with fail;refine i.o.mono ?_;rintro e w9 l
          exact l.elim
         | bad C D E=>
          rw[hn69]at i;have F:=hI (show p= .bad C D E by rw[el.o,hn69]<;>rfl);clear hn69;go_wp2_with fail;refine i.o.mono ?_;rintro e w9 ⟨rfl,B⟩;go_wp2_with fail;rw[F.o]
          exact⟨rfl,prp_bad (hI (grown_tr en.o B.o))⟩
         | ok e2 k9=>
          rw[hn69]at i;have gu:=(sumE_fw (nm:=nameP) (ts:=ts) k8) _ _ hn69;have ep:=hI (show p=(wantP ts false [59] k9).bind fun _ k10=>(bodyP nameP ts fu k10 (q.map EqN.pl++[⟨n2,e2⟩]) (s.map EdN.pl)).bind fun b k3=> .ok ⟨n,b.1,b.2⟩ k3 by rw[el.o,hn69]<;>rfl);clear hn69;go_wp2_with fail;refine i.o.mono ?_;rintro e wq69 ⟨l,a0,ft⟩;obtain⟨c,l,fw⟩:=l
          cases l
          obtain⟨cb,cc⟩:=eX (wq68.heap.size);obtain⟨eq,es⟩:=eX (wq69.heap.size);have gv:g<cb:=(by rw[cc];exact em.o.gl);have gw:P<cb:=(by rw[cc];exact eo.o.lt);have gz:cb≤eq:=(by rw[cc,es];exact a0.o.size);have fz:=hI (show InA (fun b=>cb≤b∧b<eq) wq69 e2 c by rw[cc,es];exact InA.lt fw.o);have cd:=hI (eo.o.grown a0.o az.o);have cy:=cd.o.cell;have fy:=cd.o.frozen;go_upto_region 10 with(fail);rw[pst16 cd.o];obtain⟨af,c7⟩:=eX (#[.string ⟨n2.toArray⟩,.i c.h.kind,.i c.h.n,.i c.h.d,.string c.h.name,.i c.h.k,.l c.A c.len c.cap]:Array Value);have ce:=hI (cd.o.put af);have c8:=hI (grown_new (grown_tr en.o a0.o) (Nat.le_of_lt eh) 59 af);have et:=hI (ft.o.far (r:=P) (fun e=>az.o (by rw[e])) (Nat.le_trans bt (Nat.le_of_lt eh)) 59 af);have eu:=hI (((((ec.o.belowW bo.o).grown bq.o I.o).grown br.o I.o).grown a0.o I.o).far (g':=P) (t':=59) (by omega) af);have ew:=hI (((((ee.o.belowW bo.o).grown bq.o G.o).grown br.o G.o).grown a0.o G.o).far (g':=P) (t':=59) (by omega) af);have ex:=hI (fz.o.far (r:=P) (by omega) 59 af);have ey:=hI (grown_new (r:=P) (grown_tr (grown_tr (grown_tr (grown_tr ef.o (grown_of (some g) bo.o)) bq.o) br.o) a0.o) (by omega) 59 af);obtain⟨f0,o⟩:=eX (putB wq69 P 59 af);have g0:wq69.heap.size≤f0.heap.size:=(by rw[o,putB_size];exact Nat.le_refl _);rw[←c7];rw[←o]at c8 et eu ew ce ex ey ⊢;clear o cy fy;rw[c7]at ce;clear c7;have i:=hI (pWant et.o (by omega) [59] false (by decide))
          cases hn71:wantP ts false [59] k9 with
          | out=>
           rw[hn71]at i;clear hn71;go_wp2_with fail;refine i.o.mono ?_;rintro e w9 l
           exact l.elim
          | bad C D E=>
           rw[hn71]at i;have F:=hI (show p= .bad C D E by rw[ep.o,hn71]<;>rfl);clear hn71;go_wp2_with fail;refine i.o.mono ?_;rintro e w9 ⟨rfl,B⟩;go_wp2_with fail;rw[F.o]
           exact⟨rfl,prp_bad (hI (grown_tr c8.o B.o))⟩
          | ok u5 k10=>
           rw[hn71]at i;have g1:=(want_fw (ts:=ts) false [59] k9) _ _ hn71;have f1:=hI (show p=(bodyP nameP ts fu k10 (q.map EqN.pl++[⟨n2,e2⟩]) (s.map EdN.pl)).bind fun b k3=> .ok ⟨n,b.1,b.2⟩ k3 by rw[ep.o,hn71]<;>rfl);clear hn71;go_wp2_with fail;refine i.o.mono ?_;rintro e wq71 ⟨l,ag,f2⟩
           cases l
           have da:=hI (ew.o.grown ag.o G.o);have f3:=hI (ina_mv ex.o (fun b hb e=>by injection e with e;omega) ag.o);have g2:=ag.o.size
           have f4:(⟨n2.toArray⟩:ByteArray).size≤maxLen:=by
            show n2.toArray.size≤_
            rw[List.size_toArray];unfold maxLen
            omega
           have a1:=hI (below_box wq71 (Obj.cells #[.string ⟨n2.toArray⟩,.i c.h.kind,.i c.h.n,.i c.h.d,.string c.h.name,.i c.h.k,.l c.A c.len c.cap] 59));have ez:=hI ((an.o.moved pzQ pzG (.inr ⟨g,rfl,by omega⟩) (grown_tr ey.o ag.o)).belowW pzQ pzG a1.o);have f5:=hI (show Avd (Own M) PzQ (fun b=>m+1≤b∧b<(wq71.alloc (Obj.cells #[.string ⟨n2.toArray⟩,.i c.h.kind,.i c.h.n,.i c.h.d,.string c.h.name,.i c.h.k,.l c.A c.len c.cap] 59)).heap.size∧some b≠Q.ownBlock) (wq71.alloc (Obj.cells #[.string ⟨n2.toArray⟩,.i c.h.kind,.i c.h.n,.i c.h.d,.string c.h.name,.i c.h.k,.l c.A c.len c.cap] 59)) (⟨⟨n2.toArray⟩,c,e2⟩:EqN)from⟨(f3.o.belowW a1.o).weaken (fun b hb=>⟨⟨by omega,by rw[World.size_alloc];omega,fun e=>by have:=bx b e.symm;omega⟩,fun e=>by have:=bz b e;omega⟩),f4⟩);have f6:∀u∈EqN.cells (⟨⟨n2.toArray⟩,c,e2⟩:EqN),u.oneCell'=true:=(by simp[EqN.cells,Value.oneCell']);have f7:m+1≤(wq71.alloc (Obj.cells #[.string ⟨n2.toArray⟩,.i c.h.kind,.i c.h.n,.i c.h.d,.string c.h.name,.i c.h.k,.l c.A c.len c.cap] 59)).heap.size:=(by rw[World.size_alloc];omega);have cx:=da.o.cell;have fx:=da.o.frozen;have cy:=(ce.o.grown ag.o az.o).cell;have fy:=(ce.o.grown ag.o az.o).frozen;obtain⟨i0,ti,bj,bk,bl⟩:=info_parts Tryz.infoEqn
           go_wp2_with (at_builtin;refine wpList_append_mk rfl _ _ _ rfl (avd_ok pzQ) EqN.len7 rfl ez.o.a f5.o i0 _ 88 Tryz.underlying47 ti bj bk bl rfl (by omega) (by omega) (by omega) wq71.heap.size _ rfl (show Blk (wq71.alloc (Obj.cells #[.string ⟨n2.toArray⟩,.i c.h.kind,.i c.h.n,.i c.h.d,.string c.h.name,.i c.h.k,.l c.A c.len c.cap] 59)) wq71.heap.size 59 (EqN.cells (⟨⟨n2.toArray⟩,c,e2⟩:EqN)).toArray from Blk.new _ _ _) f6 f7 ?_)
           intro v9 w9 hmk hgr hob;have b8:=hI (ez.o.pushed pzG hmk hgr (by rw[World.size_alloc];exact hob));have cf:=hI hgr;obtain⟨A9,c9,bm,_⟩:=hmk.lies (avd_ok pzQ);clear hmk hgr hob ti bj bk bl cx fx cy fy;obtain⟨L9,bn⟩:=eX ((q++[(⟨⟨n2.toArray⟩,c,e2⟩:EqN)]).length);rw[←bn]at bm;clear bn;subst bm
           have V:∀b,Q.ownBlock=some b→m+1≤b:=fun b h=>(bx b h).1
           have be:=hI (env_row (f2.o.belowW a1.o) cf.o (fun b h=>by have:=V b h;omega));have B:=hI (grown_row (grown_tr (grown_tr c8.o ag.o) (grown_of (some g) a1.o)) cf.o (fun b h=>by have:=V b h;omega));have f8:=hI (((eu.o.grown ag.o I.o).belowW a1.o).grown cf.o (fun e=>by have:=V _ e.symm;omega));have cg:=hI ((da.o.belowW a1.o).grown cf.o (fun e=>by have:=V _ e.symm;omega));have db:=hI (b8.o.moved pzQ pzG (.inr ⟨m,rfl,Nat.lt_succ_self _⟩) (putB_grown w9 m 50 #[.string ⟨n.toArray⟩,.l A9 L9 c9,M]));have cx:=cg.o.cell;have fx:=cg.o.frozen;go_wp2_with fail;rw[(show w9.setCell ⟨m,1,none⟩ (.l A9 L9 c9)=putB w9 m 50 #[.string ⟨n.toArray⟩,.l A9 L9 c9,M]from cg.o.setCell_eq 1 _)];obtain⟨bs,dc⟩:=eX (#[.string ⟨n.toArray⟩,.l A9 L9 c9,M]:Array Value);have dd:=hI (cg.o.put bs);have e0:=hI (grown_new B.o (Nat.le_of_lt bv) 50 bs);have e1:=hI (be.o.far (r:=m) (fun e=>G.o (by rw[e])) (Nat.le_trans bt (Nat.le_of_lt bv)) 50 bs);have e3:=hI (f8.o.far (g':=m) (t':=50) (by omega) bs);obtain⟨f9,o⟩:=eX (putB w9 m 50 bs);have g3:w9.heap.size≤f9.heap.size:=(by rw[o,putB_size];exact Nat.le_refl _);rw[←dc]at db ⊢;rw[←o]at e0 e1 e3 dd db ⊢;clear o cx fx;rw[dc]at dd;clear dc
           go_roundg fu
           case measure=>omega
           case rel=>exact⟨k10,q++[(⟨⟨n2.toArray⟩,c,e2⟩:EqN)],s,.l A9 L9 c9,M,hI (by rw[f1.o,List.map_append];rfl),by omega,by omega,by rw[List.length_append];show q.length+1≤_;omega,by omega,e1,e0,e3,dd,db⟩
