import Derived.Test.YtgcjmhjjpbcfmaaGreatDoorLiD
open List renaming setIfInBounds_toArray → Lj,set_cons_zero → Lk,set_cons_succ → Lq,getElem_toArray → Ly,getElem_cons_zero → Lz,getElem_cons_succ → Lv
set_option maxHeartbeats 8000000
set_option maxRecDepth 100000
namespace Go.Proofs.YtgcjmhjjpbcfmaaGreatDoor
open Go.RowKit Go.Fl Go.Fl.Nm Go.Fl.Dy Go.Fl.Rt Go.Fl.Lb
def enV(n d p:Int):Iv:=⟨(Go.Fl.Dy.encR n d p).1,(Go.Fl.Dy.encR n d p).2.1,(Go.Fl.Dy.encR n d p).2.2⟩
theorem enV_ok(n d p:Int):(enV n d p).ok:=by
 unfold enV Go.Fl.Dy.encR
 split
 ·
  exact⟨divE_vld _ _ _ _,divE_vld _ _ _ _,fun h=>by cases h⟩
 exact⟨vld_zero,vld_zero,fun _=>⟨rfl,rfl⟩⟩
theorem enV_no{n d p:Int}(h:¬(vB n d=true∧(divE (canon (decide (n<0)) n.natAbs 0) (canon false d.natAbs 0) p false).2=0∧(divE (canon (decide (n<0)) n.natAbs 0) (canon false d.natAbs 0) p true).2=0)):whI=enV n d p:=by
 unfold enV Go.Fl.Dy.encR;rw[if_neg h]
 rfl
theorem enV_yes{n d p:Int}(h:vB n d=true∧(divE (canon (decide (n<0)) n.natAbs 0) (canon false d.natAbs 0) p false).2=0∧(divE (canon (decide (n<0)) n.natAbs 0) (canon false d.natAbs 0) p true).2=0):
 (⟨(divE (canon (decide (n<0)) n.natAbs 0) (canon false d.natAbs 0) p false).1,(divE (canon (decide (n<0)) n.natAbs 0) (canon false d.natAbs 0) p true).1,false⟩:Iv)=enV n d p:=by
 unfold enV Go.Fl.Dy.encR;rw[if_pos h]
def QuCut(W:World)(x:D×Int)(s s':Value)(wx:World):Prop:=
  ∃(g:Nat) (A:Option Addr) (n c:Nat),s= .p g∧s'= .i x.2∧Hid (Blk wx g 75 #[.b x.1.neg,.l A n c,.i x.1.e])∧Hid (Sl wx A n c (limbs x.1.k))∧Hid (W.heap.size≤g)∧Hid (Below W.heap.size W wx)
theorem ienclose_any(n d p:Int)(w:World)(hT:RB w)(h1: -9223372036854775808≤n)(h2:n≤9223372036854775807)(h3: -9223372036854775808≤d)(h4:d≤9223372036854775807):
 Calls Tryz.prog 42 #[.agg #[.i n,.i d],.i p] w (IvQ (enV n d p) w):=by
 have HT:=hI hT;obtain⟨R,hR⟩:=eX (enV n d p);have HR:=hI hR;rw[←hR];obtain⟨vb,dc⟩:=eX (vB n d);have cc:=hI dc.symm;clear hT hR dc;have dz:=hI (Below.refl w.heap.size w)
 go_in
 go_upto_region 1 with(fail);generalize g:World.alloc _ _=ww1;obtain⟨dd,cz,d0⟩:=gn2 g;clear g;have d3:=dz.o.t dd;have ck:=cz.o.cell;have fk:=cz.o.frozen;go_wp2_with fail;refine(valid_q n d ww1 h1 h2 h3 h4).mono ?_;rw[cc.o];rintro e ww2 ⟨rfl,cf⟩;have de:=d3.o.t cf;have df:=hI ((HT.o.belowW dd.o).belowW cf.o);have ao:=cz.o.b9 cf;have b0:=d0.o.b9 cf;clear ck fk;have ck:=ao.o.cell;have fk:=ao.o.frozen;have H:=b0.o.cell;have fr:=b0.o.frozen
 cases vb with
 | false=>
  have HX:=hI ((enV_no (p:=p) (fun h=>by rw[cc.o]at h;cases h.1)).trans HR.o.symm);go_wp2;rw[store7_put b0.o];obtain⟨ap,aq,I⟩:=putI (v:=wh9) (wh9_in _) b0.o noU7 de.o (by omega);obtain⟨w9,g⟩:=eX (putB ww2 (w.heap.size+1) 77 #[.b false,.sn,.i 0,.b false,.sn,.i 0,.b true]);rw[show(wh9:IvN).cells=#[.b false,.sn,.i 0,.b false,.sn,.i 0,.b true]from rfl,←g]at ap aq I;rw[←g];clear g;clear ck fk H fr;have H:=I.o.cell;have fr:=I.o.frozen;refine bodyPost_ret (v:= .agg #[.b false,.sn,.i 0,.b false,.sn,.i 0,.b true]) (by simp[results,Tryz.results42,go_sem,H]) rfl ?_
  exact⟨wh9,rfl,HX,ap,aq⟩
 | true=>
  clear ck fk H fr;obtain⟨v1,v2,v3,v4,_⟩:=vB_iff.1 cc.o
  unfold MX at v2 v3 v4;obtain⟨a,ha⟩:=eX (canon (decide (n<0)) n.natAbs 0);obtain⟨b,hb⟩:=eX (canon false d.natAbs 0);have VA:=hI (show vld a by rw[ha];exact canon_small (by omega));have VB:=hI (show vld b by rw[hb];exact canon_small (by omega));have HA:=hI ha.symm;have HB:=hI hb.symm;have KN:=hI (show n=if decide (n<0)then -(n.natAbs:Int)else n.natAbs by by_cases h:n<0<;>simp[h]<;>omega);have KD:=hI (show d=if false then -(d.natAbs:Int)else d.natAbs by simp;omega);have KY:=hI (show false=true→d.natAbs≠0 by intro h;cases h);have KZ:=hI (show decide (n<0)=true→n.natAbs≠0 by simp;omega);have ba:n.natAbs≤1073741824:=(by omega);have bb:d.natAbs≤1073741824:=(by omega);obtain⟨x,hx⟩:=eX (divE a b p false);obtain⟨y,hy⟩:=eX (divE a b p true);have d5:=hI (show ¬(x.2=0∧y.2=0)→whI=R from fun h=>(enV_no (p:=p) (fun h'=>h (by rw[hx,hy,ha,hb];exact h'.2))).trans HR.o.symm);have d6:=hI (show x.2=0∧y.2=0→(⟨x.1,y.1,false⟩:Iv)=R from fun h=>by rw[HR.o,hx,hy,ha,hb];exact enV_yes ⟨cc.o,by rw[hx,hy,ha,hb]at h;exact h⟩);have cl:=hI hx.symm;have cm:=hI hy.symm;clear hx hy ha hb v1 v2 v3 v4;go_upto_region 3 with(fail)
  go_cut [5,6] (QuCut ww2 x)
  case first=>
   have c0:=hI (Below.refl ww2.heap.size ww2);have cn:=hI (below_dr ww2);have co:=df.o.b9 cn;have cp:=ao.o.b9 cn;have cq:=c0.o.t cn
   refine wp_region_held_drew (S:=fun w'=>cz2 w' w.heap.size (.i n) (.i d)) (by kernel_rfl) cp.o.cz2 fun hHeld=>?_
   obtain⟨b3,b4⟩:=eX (ww2.drew);rw[←b4]at cn co cp cq hHeld ⊢;clear b4;refine tkW 0 ?_;refine tkW 1 ?_;refine tkW 3 ?_;refine tkW 4 ?_;refine tkW 6 ?_;refine wpAnyH_ready (rs:=[2,11]) (by kernel_rfl) (by simp) ?_;refine(AllReadyH.cons rfl (fun K hK=>?q121_1) (AllReadyH.cons rfl (fun K hK=>?q121_2) AllReadyH.nil))
   case' q121_1=>
    go_simp
    (with_reducible refine(int_any n.natAbs (decide (n<0)) n b3 co.o ba KN.o KZ.o).mono ?_)
    rw[HA.o];rintro e ae ⟨J,L,M,rfl,a8,a9⟩;have bo:=co.o.b9 a9;have af:=cp.o.b9 a9;have av:=cq.o.t a9;have dj:=hI (a8.o);go_wp2_with fail;clear hHeld
    refine hK.out _ _ af.o.cz2 fun hHeld=>?_
    clear hK K
    try simp only[Lj,Lk,Lq]
    refine wpAnyH_ready (rs:=[5,11]) (by kernel_rfl) (by simp) ?_;refine(AllReadyH.cons rfl (fun K hK=>?q121_3) (AllReadyH.cons rfl (fun K hK=>?q121_4) AllReadyH.nil))
    case' q121_3=>
     go_simp
     (with_reducible refine(int_any d.natAbs false d ae bo.o bb KD.o KY.o).mono ?_)
     rw[HB.o];rintro e Z ⟨E,F,G,rfl,N,C⟩;have ag:=bo.o.b9 C;have ah:=af.o.b9 C;have bc:=av.o.t C;have dk:=dj.o.b9 C;have dl:=hI (N.o);go_wp2_with fail;clear hHeld
     refine hK.out _ _ ah.o.cz2 fun hHeld=>?_
     clear hK K
     try simp only[Lj,Lk,Lq]
     refine wpAnyH_ready (rs:=[7,11]) (by kernel_rfl) (by simp) ?_;refine(AllReadyH.cons rfl (fun K hK=>?q121_5) (AllReadyH.cons rfl (fun K hK=>?q121_6) AllReadyH.nil))
     case' q121_5=>
      go_simp
      (with_reducible refine(DivDown_any a b J E L M F G p Z dk.o dl.o VA.o VB.o ag.o).mono ?_)
      rw[cl.o];rintro e O ⟨P,Q,T,rfl,B,l⟩;have aa:=ag.o.b9 l;have U:=ah.o.b9 l;have aw:=bc.o.t l;go_wp2_with fail;clear hHeld
      refine hK.out _ _ U.o.cz2 fun hHeld=>?_
      clear hK K
      try simp only[Lj,Lk,Lq]
      refine tkW 8 ?_;refine tkW 9 ?_;refine tkW 10 ?_
      refine wr1 11 fun K hK=>?_
      go_simp;obtain⟨ax,i,o,_⟩:=aX O 75 #[.b false,.sn,.i 0];have V:=U.o.b9 o;have d7:=hI (show Blk ax O.heap.size 75 #[.b false,.sn,.i 0]by rw[i];exact Blk.new _ _ _);rw[←i];clear i;clear hHeld
      refine hK.out _ _ V.o.cz2 fun hHeld=>?_
      clear hK K
      try simp only[Lj,Lk,Lq]
      obtain⟨bp,c⟩:=eX (ax);have bd:=(aa.o.b9 o);have ay:=V;have az:=(aw.o.t o);have a0:=(hI ((B.o).belowW o.o));have u:=d7;have r:=(hI (show ww2.heap.size≤O.heap.size from aw.o.size))
      try rw[←c]at bd
      try rw[←c]at ay
      try rw[←c]at az
      try rw[←c]at a0
      try rw[←c]at u
      try rw[←c]at r
      rw[←c]at hHeld ⊢;clear c;obtain⟨j,k⟩:=eX (O.heap.size);rw[←k]at u r ⊢;clear k;have ai:w.heap.size≠j:=(by have h1:=r.o;have h2:=ao.o.lt;omega)
     case' q121_6=>
      go_simp;obtain⟨O,i,l,_⟩:=aX Z 75 #[.b false,.sn,.i 0];have aa:=ag.o.b9 l;have U:=ah.o.b9 l;have aw:=bc.o.t l;have d8:=hI (show Blk O Z.heap.size 75 #[.b false,.sn,.i 0]by rw[i];exact Blk.new _ _ _);rw[←i];clear i;clear hHeld
      refine hK.out _ _ U.o.cz2 fun hHeld=>?_
      clear hK K
      try simp only[Lj,Lk,Lq]
      refine wr1 7 fun K hK=>?_
      go_simp
      (with_reducible refine(DivDown_any a b J E L M F G p O (dk.o.belowW l.o) (dl.o.belowW l.o) VA.o VB.o aa.o).mono ?_)
      rw[cl.o];rintro e ax ⟨P,Q,T,rfl,B,o⟩;have V:=U.o.b9 o;go_wp2_with fail;clear hHeld
      refine hK.out _ _ V.o.cz2 fun hHeld=>?_
      clear hK K
      try simp only[Lj,Lk,Lq]
      refine tkW 8 ?_;refine tkW 9 ?_;refine tkW 10 ?_;obtain⟨bp,c⟩:=eX (ax);have bd:=(aa.o.b9 o);have ay:=V;have az:=(aw.o.t o);have u:=(d8.o.b9 o);have r:=(hI ((show ww2.heap.size≤Z.heap.size from bc.o.size)));have a0:=(hI (B.o))
      try rw[←c]at bd
      try rw[←c]at ay
      try rw[←c]at az
      try rw[←c]at u
      try rw[←c]at r
      try rw[←c]at a0
      rw[←c]at hHeld ⊢;clear c;obtain⟨j,k⟩:=eX (Z.heap.size);rw[←k]at u r ⊢;clear k;have ai:w.heap.size≠j:=(by have h1:=r.o;have h2:=ao.o.lt;omega)
    case' q121_4=>
     go_simp;obtain⟨Z,i,C,_⟩:=aX ae 75 #[.b false,.sn,.i 0];have ag:=bo.o.b9 C;have ah:=af.o.b9 C;have bc:=av.o.t C;have d9:=hI (show Blk Z ae.heap.size 75 #[.b false,.sn,.i 0]by rw[i];exact Blk.new _ _ _);rw[←i];clear i;clear hHeld
     refine hK.out _ _ ah.o.cz2 fun hHeld=>?_
     clear hK K
     try simp only[Lj,Lk,Lq]
     refine wr1 5 fun K hK=>?_
     go_simp
     (with_reducible refine(int_any d.natAbs false d Z ag.o bb KD.o KY.o).mono ?_)
     rw[HB.o];rintro e O ⟨E,F,G,rfl,N,l⟩;have aa:=ag.o.b9 l;have U:=ah.o.b9 l;have aw:=bc.o.t l;go_wp2_with fail;clear hHeld
     refine hK.out _ _ U.o.cz2 fun hHeld=>?_
     clear hK K
     try simp only[Lj,Lk,Lq]
     refine wr1 7 fun K hK=>?_
     go_simp
     (with_reducible refine(DivDown_any a b J E L M F G p O ((dj.o.belowW C.o).belowW l.o) (N.o) VA.o VB.o aa.o).mono ?_)
     rw[cl.o];rintro e ax ⟨P,Q,T,rfl,B,o⟩;have V:=U.o.b9 o;go_wp2_with fail;clear hHeld
     refine hK.out _ _ V.o.cz2 fun hHeld=>?_
     clear hK K
     try simp only[Lj,Lk,Lq]
     refine tkW 8 ?_;refine tkW 9 ?_;refine tkW 10 ?_;obtain⟨bp,c⟩:=eX (ax);have bd:=(aa.o.b9 o);have ay:=V;have az:=(aw.o.t o);have u:=(hI ((d9.o.belowW l.o).belowW o.o));have r:=(hI (((show ww2.heap.size≤ae.heap.size from av.o.size))));have a0:=(hI (B.o))
     try rw[←c]at bd
     try rw[←c]at ay
     try rw[←c]at az
     try rw[←c]at u
     try rw[←c]at r
     try rw[←c]at a0
     rw[←c]at hHeld ⊢;clear c;obtain⟨j,k⟩:=eX (ae.heap.size);rw[←k]at u r ⊢;clear k;have ai:w.heap.size≠j:=(by have h1:=r.o;have h2:=ao.o.lt;omega)
   case' q121_2=>
    go_simp;obtain⟨ae,i,a9,_⟩:=aX b3 75 #[.b false,.sn,.i 0];have bo:=co.o.b9 a9;have af:=cp.o.b9 a9;have av:=cq.o.t a9;have ea:=hI (show Blk ae b3.heap.size 75 #[.b false,.sn,.i 0]by rw[i];exact Blk.new _ _ _);have cs:=hI (show ww2.heap.size≤b3.heap.size from cq.o.size);rw[←i];clear i;clear hHeld
    refine hK.out _ _ af.o.cz2 fun hHeld=>?_
    clear hK K
    try simp only[Lj,Lk,Lq]
    refine wr1 2 fun K hK=>?_
    go_simp
    (with_reducible refine(int_any n.natAbs (decide (n<0)) n ae bo.o ba KN.o KZ.o).mono ?_)
    rw[HA.o];rintro e Z ⟨J,L,M,rfl,a8,C⟩;have ag:=bo.o.b9 C;have ah:=af.o.b9 C;have bc:=av.o.t C;go_wp2_with fail;clear hHeld
    refine hK.out _ _ ah.o.cz2 fun hHeld=>?_
    clear hK K
    try simp only[Lj,Lk,Lq]
    refine wr1 5 fun K hK=>?_
    go_simp
    (with_reducible refine(int_any d.natAbs false d Z ag.o bb KD.o KY.o).mono ?_)
    rw[HB.o];rintro e O ⟨E,F,G,rfl,N,l⟩;have aa:=ag.o.b9 l;have U:=ah.o.b9 l;have aw:=bc.o.t l;go_wp2_with fail;clear hHeld
    refine hK.out _ _ U.o.cz2 fun hHeld=>?_
    clear hK K
    try simp only[Lj,Lk,Lq]
    refine wr1 7 fun K hK=>?_
    go_simp
    (with_reducible refine(DivDown_any a b J E L M F G p O ((a8.o).belowW l.o) (N.o) VA.o VB.o aa.o).mono ?_)
    rw[cl.o];rintro e ax ⟨P,Q,T,rfl,B,o⟩;have V:=U.o.b9 o;go_wp2_with fail;clear hHeld
    refine hK.out _ _ V.o.cz2 fun hHeld=>?_
    clear hK K
    try simp only[Lj,Lk,Lq]
    refine tkW 8 ?_;refine tkW 9 ?_;refine tkW 10 ?_;obtain⟨bp,c⟩:=eX (ax);have bd:=(aa.o.b9 o);have ay:=V;have az:=(aw.o.t o);have u:=(hI (((ea.o.belowW C.o).belowW l.o).belowW o.o));have r:=(hI (((cs.o))));have a0:=(hI (B.o))
    try rw[←c]at bd
    try rw[←c]at ay
    try rw[←c]at az
    try rw[←c]at u
    try rw[←c]at r
    try rw[←c]at a0
    rw[←c]at hHeld ⊢;clear c;obtain⟨j,k⟩:=eX (b3.heap.size);rw[←k]at u r ⊢;clear k;have ai:w.heap.size≠j:=(by have h1:=r.o;have h2:=ao.o.lt;omega)
   all_goals
    refine wr1 12 fun K hK=>?_
    have ps:=u.o.cell;have fs:=u.o.frozen;go_simp;rw[store3_put u.o];clear ps fs;obtain⟨b5,c6⟩:=eX (#[.b x.1.neg,.l P Q T,.i x.1.e]:Array Value);have af:=hI (ay.o.far (t':=75) ai b5);have av:=hI (az.o.trans (putB_below bp j 75 b5 r.o));have cs:=hI (r.o);have dm:=hI (a0.o.far u.o noU3 (putB_grown bp j 75 b5));have c7:=hI (u.o.put b5);obtain⟨ae,g⟩:=eX (putB bp (j) 75 b5)
    try rw[←g]at af
    try rw[←g]at av
    try rw[←g]at cs
    try rw[←g]at dm
    try rw[←g]at c7
    rw[←c6];rw[←g];clear g hHeld;rw[c6]at c7;clear c6
    refine hK.out _ _ af.o.cz2 fun hHeld=>?_
    clear hK K
    try simp only[Lj,Lk,Lq]
    refine tkW 13 ?_;refine wpAnyH_done (by kernel_rfl) ?_ _;go_wp2
    go_meet
    exact⟨j,P,Q,T,rfl,rfl,c7,dm,cs,av⟩
  obtain⟨en,bq,br,bs,rfl,rfl,c8,dn,eo,b6⟩:=hcut;obtain⟨aj,g⟩:=eX (wc);rw[←g]at c8 dn b6 ⊢;clear g;have eb:=de.o.t b6;have b7:=ao.o.b9 b6;go_upto_region 4 with(fail)
  go_cut [7,8] (QuCut aj y)
  case first=>
   have c0:=hI (Below.refl aj.heap.size aj);have ct:=hI (below_dr aj);have cu:=hI ((df.o.belowW b6.o).belowW ct.o);have cv:=b7.o.b9 ct;have cw:=c0.o.t ct
   refine wp_region_held_drew (S:=fun w'=>cz2 w' w.heap.size (.i n) (.i d)) (by kernel_rfl) cv.o.cz2 fun hHeld=>?_
   obtain⟨b8,b4⟩:=eX (aj.drew);rw[←b4]at ct cu cv cw hHeld ⊢;clear b4;refine tkW 0 ?_;refine tkW 1 ?_;refine tkW 3 ?_;refine tkW 4 ?_;refine tkW 6 ?_;refine wpAnyH_ready (rs:=[2,11]) (by kernel_rfl) (by simp) ?_;refine(AllReadyH.cons rfl (fun K hK=>?q141_1) (AllReadyH.cons rfl (fun K hK=>?q141_2) AllReadyH.nil))
   case' q141_1=>
    go_simp
    (with_reducible refine(int_any n.natAbs (decide (n<0)) n b8 cu.o ba KN.o KZ.o).mono ?_)
    rw[HA.o];rintro e ak ⟨J,L,M,rfl,a8,be⟩;have bt:=cu.o.b9 be;have al:=cv.o.b9 be;have a1:=cw.o.t be;have dp:=hI (a8.o);go_wp2_with fail;clear hHeld
    refine hK.out _ _ al.o.cz2 fun hHeld=>?_
    clear hK K
    try simp only[Lj,Lk,Lq]
    refine wpAnyH_ready (rs:=[5,11]) (by kernel_rfl) (by simp) ?_;refine(AllReadyH.cons rfl (fun K hK=>?q141_3) (AllReadyH.cons rfl (fun K hK=>?q141_4) AllReadyH.nil))
    case' q141_3=>
     go_simp
     (with_reducible refine(int_any d.natAbs false d ak bt.o bb KD.o KY.o).mono ?_)
     rw[HB.o];rintro e ab ⟨E,F,G,rfl,N,D⟩;have am:=bt.o.b9 D;have an:=al.o.b9 D;have bf:=a1.o.t D;have dq:=dp.o.b9 D;have dr:=hI (N.o);go_wp2_with fail;clear hHeld
     refine hK.out _ _ an.o.cz2 fun hHeld=>?_
     clear hK K
     try simp only[Lj,Lk,Lq]
     refine wpAnyH_ready (rs:=[7,11]) (by kernel_rfl) (by simp) ?_;refine(AllReadyH.cons rfl (fun K hK=>?q141_5) (AllReadyH.cons rfl (fun K hK=>?q141_6) AllReadyH.nil))
     case' q141_5=>
      go_simp
      (with_reducible refine(DivUp_any a b J E L M F G p ab dq.o dr.o VA.o VB.o am.o).mono ?_)
      rw[cm.o];rintro e W ⟨P,Q,T,rfl,B,m⟩;have ac:=am.o.b9 m;have X:=an.o.b9 m;have a2:=bf.o.t m;go_wp2_with fail;clear hHeld
      refine hK.out _ _ X.o.cz2 fun hHeld=>?_
      clear hK K
      try simp only[Lj,Lk,Lq]
      refine tkW 8 ?_;refine tkW 9 ?_;refine tkW 10 ?_
      refine wr1 11 fun K hK=>?_
      go_simp;obtain⟨a3,i,q,_⟩:=aX W 75 #[.b false,.sn,.i 0];have Y:=X.o.b9 q;have ec:=hI (show Blk a3 W.heap.size 75 #[.b false,.sn,.i 0]by rw[i];exact Blk.new _ _ _);rw[←i];clear i;clear hHeld
      refine hK.out _ _ Y.o.cz2 fun hHeld=>?_
      clear hK K
      try simp only[Lj,Lk,Lq]
      obtain⟨bu,c⟩:=eX (a3);have bg:=(ac.o.b9 q);have a4:=Y;have a5:=(a2.o.t q);have a6:=(hI ((B.o).belowW q.o));have z:=ec;have s:=(hI (show aj.heap.size≤W.heap.size from a2.o.size))
      try rw[←c]at bg
      try rw[←c]at a4
      try rw[←c]at a5
      try rw[←c]at a6
      try rw[←c]at z
      try rw[←c]at s
      rw[←c]at hHeld ⊢;clear c;obtain⟨j,k⟩:=eX (W.heap.size);rw[←k]at z s ⊢;clear k;have ai:w.heap.size≠j:=(by have h1:=s.o;have h2:=b7.o.lt;omega)
     case' q141_6=>
      go_simp;obtain⟨W,i,m,_⟩:=aX ab 75 #[.b false,.sn,.i 0];have ac:=am.o.b9 m;have X:=an.o.b9 m;have a2:=bf.o.t m;have ed:=hI (show Blk W ab.heap.size 75 #[.b false,.sn,.i 0]by rw[i];exact Blk.new _ _ _);rw[←i];clear i;clear hHeld
      refine hK.out _ _ X.o.cz2 fun hHeld=>?_
      clear hK K
      try simp only[Lj,Lk,Lq]
      refine wr1 7 fun K hK=>?_
      go_simp
      (with_reducible refine(DivUp_any a b J E L M F G p W (dq.o.belowW m.o) (dr.o.belowW m.o) VA.o VB.o ac.o).mono ?_)
      rw[cm.o];rintro e a3 ⟨P,Q,T,rfl,B,q⟩;have Y:=X.o.b9 q;go_wp2_with fail;clear hHeld
      refine hK.out _ _ Y.o.cz2 fun hHeld=>?_
      clear hK K
      try simp only[Lj,Lk,Lq]
      refine tkW 8 ?_;refine tkW 9 ?_;refine tkW 10 ?_;obtain⟨bu,c⟩:=eX (a3);have bg:=(ac.o.b9 q);have a4:=Y;have a5:=(a2.o.t q);have z:=(ed.o.b9 q);have s:=(hI ((show aj.heap.size≤ab.heap.size from bf.o.size)));have a6:=(hI (B.o))
      try rw[←c]at bg
      try rw[←c]at a4
      try rw[←c]at a5
      try rw[←c]at z
      try rw[←c]at s
      try rw[←c]at a6
      rw[←c]at hHeld ⊢;clear c;obtain⟨j,k⟩:=eX (ab.heap.size);rw[←k]at z s ⊢;clear k;have ai:w.heap.size≠j:=(by have h1:=s.o;have h2:=b7.o.lt;omega)
    case' q141_4=>
     go_simp;obtain⟨ab,i,D,_⟩:=aX ak 75 #[.b false,.sn,.i 0];have am:=bt.o.b9 D;have an:=al.o.b9 D;have bf:=a1.o.t D;have ee:=hI (show Blk ab ak.heap.size 75 #[.b false,.sn,.i 0]by rw[i];exact Blk.new _ _ _);rw[←i];clear i;clear hHeld
     refine hK.out _ _ an.o.cz2 fun hHeld=>?_
     clear hK K
     try simp only[Lj,Lk,Lq]
     refine wr1 5 fun K hK=>?_
     go_simp
     (with_reducible refine(int_any d.natAbs false d ab am.o bb KD.o KY.o).mono ?_)
     rw[HB.o];rintro e W ⟨E,F,G,rfl,N,m⟩;have ac:=am.o.b9 m;have X:=an.o.b9 m;have a2:=bf.o.t m;go_wp2_with fail;clear hHeld
     refine hK.out _ _ X.o.cz2 fun hHeld=>?_
     clear hK K
     try simp only[Lj,Lk,Lq]
     refine wr1 7 fun K hK=>?_
     go_simp
     (with_reducible refine(DivUp_any a b J E L M F G p W ((dp.o.belowW D.o).belowW m.o) (N.o) VA.o VB.o ac.o).mono ?_)
     rw[cm.o];rintro e a3 ⟨P,Q,T,rfl,B,q⟩;have Y:=X.o.b9 q;go_wp2_with fail;clear hHeld
     refine hK.out _ _ Y.o.cz2 fun hHeld=>?_
     clear hK K
     try simp only[Lj,Lk,Lq]
     refine tkW 8 ?_;refine tkW 9 ?_;refine tkW 10 ?_;obtain⟨bu,c⟩:=eX (a3);have bg:=(ac.o.b9 q);have a4:=Y;have a5:=(a2.o.t q);have z:=(hI ((ee.o.belowW m.o).belowW q.o));have s:=(hI (((show aj.heap.size≤ak.heap.size from a1.o.size))));have a6:=(hI (B.o))
     try rw[←c]at bg
     try rw[←c]at a4
     try rw[←c]at a5
     try rw[←c]at z
     try rw[←c]at s
     try rw[←c]at a6
     rw[←c]at hHeld ⊢;clear c;obtain⟨j,k⟩:=eX (ak.heap.size);rw[←k]at z s ⊢;clear k;have ai:w.heap.size≠j:=(by have h1:=s.o;have h2:=b7.o.lt;omega)
   case' q141_2=>
    go_simp;obtain⟨ak,i,be,_⟩:=aX b8 75 #[.b false,.sn,.i 0];have bt:=cu.o.b9 be;have al:=cv.o.b9 be;have a1:=cw.o.t be;have ef:=hI (show Blk ak b8.heap.size 75 #[.b false,.sn,.i 0]by rw[i];exact Blk.new _ _ _);have cx:=hI (show aj.heap.size≤b8.heap.size from cw.o.size);rw[←i];clear i;clear hHeld
    refine hK.out _ _ al.o.cz2 fun hHeld=>?_
    clear hK K
    try simp only[Lj,Lk,Lq]
    refine wr1 2 fun K hK=>?_
    go_simp
    (with_reducible refine(int_any n.natAbs (decide (n<0)) n ak bt.o ba KN.o KZ.o).mono ?_)
    rw[HA.o];rintro e ab ⟨J,L,M,rfl,a8,D⟩;have am:=bt.o.b9 D;have an:=al.o.b9 D;have bf:=a1.o.t D;go_wp2_with fail;clear hHeld
    refine hK.out _ _ an.o.cz2 fun hHeld=>?_
    clear hK K
    try simp only[Lj,Lk,Lq]
    refine wr1 5 fun K hK=>?_
    go_simp
    (with_reducible refine(int_any d.natAbs false d ab am.o bb KD.o KY.o).mono ?_)
    rw[HB.o];rintro e W ⟨E,F,G,rfl,N,m⟩;have ac:=am.o.b9 m;have X:=an.o.b9 m;have a2:=bf.o.t m;go_wp2_with fail;clear hHeld
    refine hK.out _ _ X.o.cz2 fun hHeld=>?_
    clear hK K
    try simp only[Lj,Lk,Lq]
    refine wr1 7 fun K hK=>?_
    go_simp
    (with_reducible refine(DivUp_any a b J E L M F G p W ((a8.o).belowW m.o) (N.o) VA.o VB.o ac.o).mono ?_)
    rw[cm.o];rintro e a3 ⟨P,Q,T,rfl,B,q⟩;have Y:=X.o.b9 q;go_wp2_with fail;clear hHeld
    refine hK.out _ _ Y.o.cz2 fun hHeld=>?_
    clear hK K
    try simp only[Lj,Lk,Lq]
    refine tkW 8 ?_;refine tkW 9 ?_;refine tkW 10 ?_;obtain⟨bu,c⟩:=eX (a3);have bg:=(ac.o.b9 q);have a4:=Y;have a5:=(a2.o.t q);have z:=(hI (((ef.o.belowW D.o).belowW m.o).belowW q.o));have s:=(hI (((cx.o))));have a6:=(hI (B.o))
    try rw[←c]at bg
    try rw[←c]at a4
    try rw[←c]at a5
    try rw[←c]at z
    try rw[←c]at s
    try rw[←c]at a6
    rw[←c]at hHeld ⊢;clear c;obtain⟨j,k⟩:=eX (b8.heap.size);rw[←k]at z s ⊢;clear k;have ai:w.heap.size≠j:=(by have h1:=s.o;have h2:=b7.o.lt;omega)
   all_goals
    refine wr1 12 fun K hK=>?_
    have ps:=z.o.cell;have fs:=z.o.frozen;go_simp;rw[store3_put z.o];clear ps fs;obtain⟨ca,c9⟩:=eX (#[.b y.1.neg,.l P Q T,.i y.1.e]:Array Value);have al:=hI (a4.o.far (t':=75) ai ca);have a1:=hI (a5.o.trans (putB_below bu j 75 ca s.o));have cx:=hI (s.o);have ds:=hI (a6.o.far z.o noU3 (putB_grown bu j 75 ca));have da:=hI (z.o.put ca);obtain⟨ak,g⟩:=eX (putB bu (j) 75 ca)
    try rw[←g]at al
    try rw[←g]at a1
    try rw[←g]at cx
    try rw[←g]at ds
    try rw[←g]at da
    rw[←c9];rw[←g];clear g hHeld;rw[c9]at da;clear c9
    refine hK.out _ _ al.o.cz2 fun hHeld=>?_
    clear hK K
    try simp only[Lj,Lk,Lq]
    refine tkW 13 ?_;refine wpAnyH_done (by kernel_rfl) ?_ _;go_wp2
    go_meet
    exact⟨j,P,Q,T,rfl,rfl,da,ds,cx,a1⟩
  obtain⟨ep,bv,bw,bx,rfl,rfl,db,dt,eq,bz⟩:=hcut;obtain⟨du,g⟩:=eX (wc);rw[←g]at db dt bz ⊢;clear g;have dv:=eb.o.t bz;have a7:=hI ((b0.o.belowW b6.o).belowW bz.o)
  by_cases e1:x.2=0∧y.2=0
  case neg=>
   have HX:=hI (d5.o e1)
   have hd:(x.2 !=0)=true∨((x.2 !=0)=false∧(y.2 !=0)=true):=by
    by_cases h:x.2=0
    ·
     exact .inr ⟨by simp[h],by simp;exact fun h'=>e1 ⟨h,h'⟩⟩
    exact .inl (by simp[h])
   clear e1
   rcases hd with d1 | ⟨d1,d2⟩
   all_goals
    have H:=a7.o.cell;have fr:=a7.o.frozen;go_wp2;rw[store7_put a7.o];obtain⟨ap,aq,I⟩:=putI (v:=wh9) (wh9_in _) a7.o noU7 dv.o (by omega);obtain⟨w9,g⟩:=eX (putB du (w.heap.size+1) 77 #[.b false,.sn,.i 0,.b false,.sn,.i 0,.b true]);rw[show(wh9:IvN).cells=#[.b false,.sn,.i 0,.b false,.sn,.i 0,.b true]from rfl,←g]at ap aq I;rw[←g];clear g;clear H fr;have H:=I.o.cell;have fr:=I.o.frozen;refine bodyPost_ret (v:= .agg #[.b false,.sn,.i 0,.b false,.sn,.i 0,.b true]) (by simp[results,Tryz.results42,go_sem,H]) rfl ?_;exact⟨wh9,rfl,HX,ap,aq⟩
  have HX:=hI (d6.o e1);have d1:(x.2 !=0)=false:=(by simp[e1.1]);have d2:(y.2 !=0)=false:=(by simp[e1.2]);have ei:=hI (show(⟨x.1,y.1,false⟩:Iv).ok by rw[HX.o,HR.o];exact enV_ok _ _ _);clear e1;have ej:=(c8.o.belowW bz.o).cell;have ek:=(c8.o.belowW bz.o).frozen;have el:=db.o.cell;have em:=db.o.frozen;have H:=a7.o.cell;have fr:=a7.o.frozen;go_wp2;rw[store7_put a7.o];obtain⟨ap,aq,I⟩:=putI (v:=⟨⟨x.1,y.1,false⟩,bq,br,bs,bv,bw,bx⟩) ⟨(dn.o.belowW bz.o),dt.o,ei.o⟩ a7.o noU7 dv.o (by omega);obtain⟨w9,g⟩:=eX (putB du (w.heap.size+1) 77 #[.b x.1.neg,.l bq br bs,.i x.1.e,.b y.1.neg,.l bv bw bx,.i y.1.e,.b false]);rw[show(⟨⟨x.1,y.1,false⟩,bq,br,bs,bv,bw,bx⟩:IvN).cells=#[.b x.1.neg,.l bq br bs,.i x.1.e,.b y.1.neg,.l bv bw bx,.i y.1.e,.b false]from rfl,←g]at ap aq I;rw[←g];clear g;clear ej ek el em H fr;have H:=I.o.cell;have fr:=I.o.frozen;refine bodyPost_ret (v:= .agg #[.b x.1.neg,.l bq br bs,.i x.1.e,.b y.1.neg,.l bv bw bx,.i y.1.e,.b false]) (by simp[results,Tryz.results42,go_sem,H]) rfl ?_;exact⟨⟨⟨x.1,y.1,false⟩,bq,br,bs,bv,bw,bx⟩,rfl,HX,ap,aq⟩
