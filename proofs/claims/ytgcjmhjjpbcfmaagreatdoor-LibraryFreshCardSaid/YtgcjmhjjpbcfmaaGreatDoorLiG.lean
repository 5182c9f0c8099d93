import Derived.Test.YtgcjmhjjpbcfmaaGreatDoorLiF
set_option linter.unusedVariables false
open List renaming setIfInBounds_toArray → Lj,set_cons_zero → Lk,set_cons_succ → Lq,getElem_toArray → Ly,getElem_cons_zero → Lz,getElem_cons_succ → Lv
set_option maxHeartbeats 8000000
set_option maxRecDepth 100000
namespace Go.Proofs.YtgcjmhjjpbcfmaaGreatDoor
open Go.RowKit Go.Fl Go.Fl.Nm Go.Fl.Dy Go.Fl.Lb
def meetI(x y:Iv):Iv×Bool:=
  if x.val=false∨y.val=false then(⟨D0,D0,false⟩,false)
  else if x.all then(y,true)else if y.all then(x,true)
  else if 0<cmpD (moreD x.lo y.lo) (lessD x.hi y.hi)then(⟨D0,D0,false⟩,false)else(⟨moreD x.lo y.lo,lessD x.hi y.hi,false⟩,true)
theorem meet_b(x y:Iv):(meetI x y).2=meetB x y:=by
 unfold meetI meetB
 cases hx:x.val<;>cases hy:y.val<;>cases ha:x.all<;>cases hb:y.all<;>(try rfl)
 show(if 0<cmpD (moreD x.lo y.lo) (lessD x.hi y.hi)then((⟨D0,D0,false⟩:Iv),false)else(⟨moreD x.lo y.lo,lessD x.hi y.hi,false⟩,true)).2=decide (cmpD (moreD x.lo y.lo) (lessD x.hi y.hi)≤0)
 split
 ·
  exact(dF).symm
 exact(dT).symm
def MtQ(r:Iv×Bool)(w:World)(e:Ending)(w':World):Prop:=∃v:IvN,e= .returned (.tuple #[.agg #[.b v.x.lo.neg,.l v.A v.n v.c,.i v.x.lo.e,.b v.x.hi.neg,.l v.B v.m v.d,.i v.x.hi.e,.b v.x.all],.b r.2])∧Hid (v.x=r.1)∧Hid (InI w' v)∧Hid (Below w.heap.size w w')
def ze9:IvN:=⟨⟨D0,D0,false⟩,none,0,0,none,0,0⟩
theorem ze9_in(w:World):InI w ze9:=⟨by show Sl w none 0 0 (limbs 0);rw[limbs_zero];exact Sl.none_ _,by show Sl w none 0 0 (limbs 0);rw[limbs_zero];exact Sl.none_ _,⟨vld_zero,vld_zero,fun h=>by cases h⟩⟩
theorem moreD_vld{a b:D}(ha:vld a)(hb:vld b):vld (moreD a b):=by unfold moreD;split<;>assumption
theorem lessD_vld{a b:D}(ha:vld a)(hb:vld b):vld (lessD a b):=by unfold lessD;split<;>assumption
theorem imeet_in(v u:IvN)(w:World)(hv:InI w v)(hu:InI w u):
 Calls Tryz.prog 45 #[.agg #[.b v.x.lo.neg,.l v.A v.n v.c,.i v.x.lo.e,.b v.x.hi.neg,.l v.B v.m v.d,.i v.x.hi.e,.b v.x.all],.agg #[.b u.x.lo.neg,.l u.A u.n u.c,.i u.x.lo.e,.b u.x.hi.neg,.l u.B u.m u.d,.i u.x.hi.e,.b u.x.all]] w (MtQ (meetI v.x u.x) w):=by
 have HV:=hI hv;have HU:=hI hu;obtain⟨R,hR⟩:=eX (meetI v.x u.x);have HR:=hI hR;rw[←hR];clear hv hu hR;have ct:=hI (Below.refl w.heap.size w)
 go_in
 go_upto_region 1 with(fail);generalize a:World.alloc _ _=ww1;obtain⟨bm,bn,bo,cu⟩:=gn3 a;clear a;have cv:=ct.o.t bm;have cd:=HV.o.b9 bm;have L:=bn.o.cell;have M:=bn.o.frozen;have V:=bo.o.cell;have W:=bo.o.frozen;obtain⟨qv,ce⟩:=eX (v.x.val);obtain⟨qu,cf⟩:=eX (u.x.val);have bp:=hI ce.symm;have bq:=hI cf.symm;clear ce cf;go_wp2_with fail;refine(ivalid_in v ww1 cd.o).mono ?_;rw[bp.o];rintro e ww2 ⟨rfl,ax⟩;have cg:=cv.o.t ax;have ch:=hI ((HU.o.belowW bm.o).belowW ax.o);have br:=bn.o.b9 ax;have bs:=bo.o.b9 ax;have a2:=cu.o.b9 ax;clear L M V W;have L:=br.o.cell;have M:=br.o.frozen;have V:=bs.o.cell;have W:=bs.o.frozen
 cases qv with
 | false=>
  have g:=hI (show R=(⟨D0,D0,false⟩,false)by rw[HR.o];unfold meetI;rw[if_pos (Or.inl bp.o)]);have O:=hI (show false=R.2 by rw[g.o]);have P:=hI (show(ze9:IvN).x=R.1 by rw[g.o]<;>rfl);have j:=a2.o.cell;have G:=a2.o.frozen;go_wp2;rw[store7_put a2.o];obtain⟨H,s,i⟩:=putI (v:=ze9) (ze9_in _) a2.o noU7 cg.o (by omega);obtain⟨w9,a⟩:=eX (putB ww2 (w.heap.size+1+1) 77 #[.b false,.sn,.i 0,.b false,.sn,.i 0,.b false]);rw[show(ze9:IvN).cells=#[.b false,.sn,.i 0,.b false,.sn,.i 0,.b false]from rfl,←a]at H s i;rw[←a];clear a;clear L M V W j G;have j:=i.o.cell;have G:=i.o.frozen;refine bodyPost_ret (v:= .tuple #[.agg #[.b false,.sn,.i 0,.b false,.sn,.i 0,.b false],.b false]) (by simp[results,Tryz.results45,go_sem,j]) rfl ?_
  exact⟨ze9,(by rw[←O.o]<;>rfl),P,H,s⟩
 | true=>
  go_wp2_with fail;refine(ivalid_in u ww2 ch.o).mono ?_;rw[bq.o];rintro e ww3 ⟨rfl,ay⟩;have be:=cg.o.t ay;have ci:=hI ((cd.o.belowW ax.o).belowW ay.o);have cj:=ch.o.b9 ay;have a3:=br.o.b9 ay;have bf:=bs.o.b9 ay;have I:=a2.o.b9 ay;clear L M V W
  cases qu with
  | false=>
   have g:=hI (show R=(⟨D0,D0,false⟩,false)by rw[HR.o];unfold meetI;rw[if_pos (Or.inr bq.o)]);have O:=hI (show false=R.2 by rw[g.o]);have P:=hI (show(ze9:IvN).x=R.1 by rw[g.o]<;>rfl);have j:=I.o.cell;have G:=I.o.frozen;go_wp2;rw[store7_put I.o];obtain⟨H,s,i⟩:=putI (v:=ze9) (ze9_in _) I.o noU7 be.o (by omega);obtain⟨w9,a⟩:=eX (putB ww3 (w.heap.size+1+1) 77 #[.b false,.sn,.i 0,.b false,.sn,.i 0,.b false]);rw[show(ze9:IvN).cells=#[.b false,.sn,.i 0,.b false,.sn,.i 0,.b false]from rfl,←a]at H s i;rw[←a];clear a;clear j G;have j:=i.o.cell;have G:=i.o.frozen;refine bodyPost_ret (v:= .tuple #[.agg #[.b false,.sn,.i 0,.b false,.sn,.i 0,.b false],.b false]) (by simp[results,Tryz.results45,go_sem,j]) rfl ?_
   exact⟨ze9,(by rw[←O.o]<;>rfl),P,H,s⟩
  | true=>
   have HN:=hI (show ¬(v.x.val=false∨u.x.val=false)by rw[bp.o,bq.o];simp)
   cases hva:v.x.all with
   | true=>
    have g:=hI (show R=(u.x,true)by rw[HR.o];unfold meetI;rw[if_neg HN.o,if_pos hva]);have HA:=hI hva;clear hva;have b:=a3.o;rw[HA.o]at b;have L:=b.cell;have M:=b.frozen;clear b;have b:=bf.o;have V:=b.cell;have W:=b.frozen;clear b;have O:=hI (show true=R.2 by rw[g.o]);have P:=hI (show(u:IvN).x=R.1 by rw[g.o]);have j:=I.o.cell;have G:=I.o.frozen;go_wp2;rw[store7_put I.o];obtain⟨H,s,i⟩:=putI (v:=u) cj.o I.o noU7 be.o (by omega);obtain⟨w9,a⟩:=eX (putB ww3 (w.heap.size+1+1) 77 #[.b u.x.lo.neg,.l u.A u.n u.c,.i u.x.lo.e,.b u.x.hi.neg,.l u.B u.m u.d,.i u.x.hi.e,.b u.x.all]);rw[show(u:IvN).cells=#[.b u.x.lo.neg,.l u.A u.n u.c,.i u.x.lo.e,.b u.x.hi.neg,.l u.B u.m u.d,.i u.x.hi.e,.b u.x.all]from rfl,←a]at H s i;rw[←a];clear a;clear L M V W j G;have j:=i.o.cell;have G:=i.o.frozen;refine bodyPost_ret (v:= .tuple #[.agg #[.b u.x.lo.neg,.l u.A u.n u.c,.i u.x.lo.e,.b u.x.hi.neg,.l u.B u.m u.d,.i u.x.hi.e,.b u.x.all],.b true]) (by simp[results,Tryz.results45,go_sem,j]) rfl ?_
    exact⟨u,(by rw[←O.o]<;>rfl),P,H,s⟩
   | false=>
    cases hua:u.x.all with
    | true=>
     have g:=hI (show R=(v.x,true)by rw[HR.o];unfold meetI;rw[if_neg HN.o,if_neg (by rw[hva];decide),if_pos hua]);have b:=a3.o;rw[hva]at b;have L:=b.cell;have M:=b.frozen;clear b;have b:=bf.o;rw[hua]at b;have V:=b.cell;have W:=b.frozen;clear b;go_upto_region 6 with(fail)
     clear hva hua;clear L M V W;have b:=a3.o;have L:=b.cell;have M:=b.frozen;clear b;have O:=hI (show true=R.2 by rw[g.o]);have P:=hI (show(v:IvN).x=R.1 by rw[g.o]);have j:=I.o.cell;have G:=I.o.frozen
     go_wp2;rw[store7_put I.o];obtain⟨H,s,i⟩:=putI (v:=v) ci.o I.o noU7 be.o (by omega);obtain⟨w9,a⟩:=eX (putB ww3 (w.heap.size+1+1) 77 #[.b v.x.lo.neg,.l v.A v.n v.c,.i v.x.lo.e,.b v.x.hi.neg,.l v.B v.m v.d,.i v.x.hi.e,.b v.x.all]);rw[show(v:IvN).cells=#[.b v.x.lo.neg,.l v.A v.n v.c,.i v.x.lo.e,.b v.x.hi.neg,.l v.B v.m v.d,.i v.x.hi.e,.b v.x.all]from rfl,←a]at H s i;rw[←a];clear a;clear L M j G;have j:=i.o.cell;have G:=i.o.frozen;refine bodyPost_ret (v:= .tuple #[.agg #[.b v.x.lo.neg,.l v.A v.n v.c,.i v.x.lo.e,.b v.x.hi.neg,.l v.B v.m v.d,.i v.x.hi.e,.b v.x.all],.b true]) (by simp[results,Tryz.results45,go_sem,j]) rfl ?_
     exact⟨v,(by rw[←O.o]<;>rfl),P,H,s⟩
    | false=>
     have HG:=hI (show R=(if 0<cmpD (moreD v.x.lo u.x.lo) (lessD v.x.hi u.x.hi)then(⟨D0,D0,false⟩,false)else(⟨moreD v.x.lo u.x.lo,lessD v.x.hi u.x.hi,false⟩,true))by rw[HR.o];unfold meetI;rw[if_neg HN.o,if_neg (by rw[hva];decide),if_neg (by rw[hua];decide)]);have HA:=hI hva;have c0:=hI hua;clear hva hua;have b:=a3.o;rw[HA.o]at b;have L:=b.cell;have M:=b.frozen;clear b;have b:=bf.o;rw[c0.o]at b;have V:=b.cell;have W:=b.frozen;clear b;go_upto_region 7 with(fail);obtain⟨p,bw⟩:=eX (moreD v.x.lo u.x.lo);obtain⟨q,bx⟩:=eX (lessD v.x.hi u.x.hi);have bz:=hI bw.symm;have bg:=hI bx.symm;rw[←bw,←bx]at HG;clear bw bx;have VM:=hI (show vld p by rw[←bz.o];exact moreD_vld HV.o.o.l HU.o.o.l);have VL:=hI (show vld q by rw[←bg.o];exact lessD_vld HV.o.o.h HU.o.o.h)
     go_cut [6] (fun s6 wx=>∃(X Y:Option Addr) (E F y z gz:Nat),s6= .p gz∧Hid (Sl wx X E F (limbs p.k))∧Hid (Sl wx Y y z (limbs q.k))∧Hid (Blk wx gz 77 #[.b p.neg,.l X E F,.i p.e,.b q.neg,.l Y y z,.i q.e,.b false])∧Hid (Blk wx (w.heap.size+1+1) 77 #[.b false,.sn,.i 0,.b false,.sn,.i 0,.b false])∧Hid (Below w.heap.size w wx))
     case first=>
      have aq:=hI (below_dr ww3);have bh:=be.o.t aq;have a4:=ci.o.b9 aq;have a5:=cj.o.b9 aq;have a6:=a3.o.b9 aq;have a7:=bf.o.b9 aq;have bi:=I.o.b9 aq
      refine wp_region_held_drew (S:=fun w'=>cz7 w' w.heap.size (.b v.x.lo.neg) (.l v.A v.n v.c) (.i v.x.lo.e) (.b v.x.hi.neg) (.l v.B v.m v.d) (.i v.x.hi.e) (.b v.x.all)∧cz7 w' (w.heap.size+1) (.b u.x.lo.neg) (.l u.A u.n u.c) (.i u.x.lo.e) (.b u.x.hi.neg) (.l u.B u.m u.d) (.i u.x.hi.e) (.b u.x.all)) (by kernel_rfl) ⟨a6.o.cz7,a7.o.cz7⟩ fun hHeld=>?_
      obtain⟨ad,cm⟩:=eX (ww3.drew);rw[←cm]at aq bh a4 a5 a6 a7 bi hHeld ⊢;clear cm;refine tkW 0 ?_;refine tkW 1 ?_;refine tkW 2 ?_;refine tkW 3 ?_;refine tkW 5 ?_;refine tkW 6 ?_;refine tkW 7 ?_;refine tkW 8 ?_;refine wpAnyH_ready (rs:=[4,11]) (by kernel_rfl) (by simp) ?_;refine(AllReadyH.cons rfl (fun K hK=>?_) (AllReadyH.cons rfl (fun K hK=>?_) AllReadyH.nil))
      ·
       go_simp
       (with_reducible refine(more_in v.x.lo u.x.lo v.A u.A v.n v.c u.n u.c ad a4.o.l a5.o.l a4.o.o.l a5.o.o.l).mono ?_)
       rw[bz.o];rintro e Q ⟨X,E,F,rfl,g,J⟩;have a8:=bh.o.t J;have ar:=a4.o.b9 J;have au:=a5.o.b9 J;have av:=a6.o.b9 J;have aw:=a7.o.b9 J;have b1:=bi.o.b9 J;have cn:=hI (g.o);go_wp2_with fail;clear hHeld
       refine hK.out _ _ ⟨av.o.cz7,aw.o.cz7⟩ fun hHeld=>?_
       clear hK K
       try simp only[Lj,Lk,Lq]
       refine wpAnyH_ready (rs:=[9,11]) (by kernel_rfl) (by simp) ?_;refine(AllReadyH.cons rfl (fun K hK=>?_) (AllReadyH.cons rfl (fun K hK=>?_) AllReadyH.nil))
       ·
        go_simp
        (with_reducible refine(less_in v.x.hi u.x.hi v.B u.B v.m v.d u.m u.d Q ar.o.h au.o.h ar.o.o.h au.o.o.h).mono ?_)
        rw[bg.o];rintro e N ⟨Y,y,z,rfl,Z,r⟩;have aa:=a8.o.t r;have ab:=av.o.b9 r;have ac:=aw.o.b9 r;have co:=b1.o.b9 r;go_wp2_with fail;clear hHeld
        refine hK.out _ _ ⟨ab.o.cz7,ac.o.cz7⟩ fun hHeld=>?_
        clear hK K
        try simp only[Lj,Lk,Lq]
        refine tkW 10 ?_
        refine wr1 11 fun K hK=>?_
        go_simp;obtain⟨az,T,C,_⟩:=aX N 77 #[.b false,.sn,.i 0,.b false,.sn,.i 0,.b false];have ae:=ab.o.b9 C;have af:=ac.o.b9 C;have D:=hI (show Blk az N.heap.size 77 #[.b false,.sn,.i 0,.b false,.sn,.i 0,.b false]by rw[T];exact Blk.new _ _ _);have c1:=hI (show w.heap.size≠N.heap.size by have:=ab.o.lt;omega);have c2:=hI (show w.heap.size+1≠N.heap.size by have:=ac.o.lt;omega);have c3:=hI (show w.heap.size+1+1≠N.heap.size by have:=co.o.lt;omega);rw[←T];clear T;clear hHeld
        refine hK.out _ _ ⟨ae.o.cz7,af.o.cz7⟩ fun hHeld=>?_
        clear hK K
        try simp only[Lj,Lk,Lq]
        refine wr1 12 fun K hK=>?_
        have ps:=D.o.cell;have fs:=D.o.frozen;go_simp;rw[store7_put D.o];clear ps fs;obtain⟨ag,b2⟩:=eX (#[.b p.neg,.l X E F,.i p.e,.b q.neg,.l Y y z,.i q.e,.b false]:Array Value);have ah:=hI ((aa.o.trans (C.o.mono aa.o.size)).trans (putB_below _ _ 77 ag (show w.heap.size≤N.heap.size from aa.o.size)));have ai:=hI (ae.o.far (t':=77) c1.o ag);have aj:=hI (af.o.far (t':=77) c2.o ag);have ak:=hI ((co.o.belowW C.o).far (t':=77) c3.o ag);have al:=hI (((cn.o.belowW r.o).belowW C.o).far D.o noU7 (putB_grown _ _ 77 ag));have am:=hI (((Z.o).belowW C.o).far D.o noU7 (putB_grown _ _ 77 ag));have U:=hI (D.o.put ag);obtain⟨cp,a⟩:=eX (putB az (N.heap.size) 77 ag)
        try rw[←a]at ah
        try rw[←a]at ai
        try rw[←a]at aj
        try rw[←a]at ak
        try rw[←a]at al
        try rw[←a]at am
        try rw[←a]at U
        rw[←b2];rw[←a];clear a hHeld;rw[b2]at U;clear b2
        refine hK.out _ _ ⟨ai.o.cz7,aj.o.cz7⟩ fun hHeld=>?_
        clear hK K
        try simp only[Lj,Lk,Lq]
        refine wpAnyH_done (by kernel_rfl) ?_ _;go_wp2
        go_meet
        exact⟨X,Y,E,F,y,z,_,rfl,al,am,U,ak,ah⟩
       go_simp;obtain⟨N,T,r,_⟩:=aX Q 77 #[.b false,.sn,.i 0,.b false,.sn,.i 0,.b false];have aa:=a8.o.t r;have bb:=ar.o.b9 r;have bc:=au.o.b9 r;have ab:=av.o.b9 r;have ac:=aw.o.b9 r;have c4:=hI (show Blk N Q.heap.size 77 #[.b false,.sn,.i 0,.b false,.sn,.i 0,.b false]by rw[T];exact Blk.new _ _ _);have c5:=hI (show w.heap.size≠Q.heap.size by have:=av.o.lt;omega);have c6:=hI (show w.heap.size+1≠Q.heap.size by have:=aw.o.lt;omega);have c7:=hI (show w.heap.size+1+1≠Q.heap.size by have:=b1.o.lt;omega);rw[←T];clear T;clear hHeld
       refine hK.out _ _ ⟨ab.o.cz7,ac.o.cz7⟩ fun hHeld=>?_
       clear hK K
       try simp only[Lj,Lk,Lq]
       refine wr1 9 fun K hK=>?_
       go_simp
       (with_reducible refine(less_in v.x.hi u.x.hi v.B u.B v.m v.d u.m u.d N bb.o.h bc.o.h bb.o.o.h bc.o.o.h).mono ?_)
       rw[bg.o];rintro e az ⟨Y,y,z,rfl,Z,C⟩;have ae:=ab.o.b9 C;have af:=ac.o.b9 C;have D:=c4.o.b9 C;go_wp2_with fail;clear hHeld
       refine hK.out _ _ ⟨ae.o.cz7,af.o.cz7⟩ fun hHeld=>?_
       clear hK K
       try simp only[Lj,Lk,Lq]
       refine tkW 10 ?_
       refine wr1 12 fun K hK=>?_
       have ps:=D.o.cell;have fs:=D.o.frozen;go_simp;rw[store7_put D.o];clear ps fs;obtain⟨an,b3⟩:=eX (#[.b p.neg,.l X E F,.i p.e,.b q.neg,.l Y y z,.i q.e,.b false]:Array Value);have ah:=hI ((aa.o.trans (C.o.mono aa.o.size)).trans (putB_below _ _ 77 an ((show w.heap.size≤Q.heap.size from a8.o.size))));have ai:=hI (ae.o.far (t':=77) (c5.o) an);have aj:=hI (af.o.far (t':=77) (c6.o) an);have ak:=hI (((b1.o.belowW r.o).belowW C.o).far (t':=77) (c7.o) an);have al:=hI (((cn.o.belowW r.o).belowW C.o).far D.o noU7 (putB_grown _ _ 77 an));have am:=hI ((Z.o).far D.o noU7 (putB_grown _ _ 77 an));have U:=hI (D.o.put an);obtain⟨cp,a⟩:=eX (putB az (Q.heap.size) 77 an)
       try rw[←a]at ah
       try rw[←a]at ai
       try rw[←a]at aj
       try rw[←a]at ak
       try rw[←a]at al
       try rw[←a]at am
       try rw[←a]at U
       rw[←b3];rw[←a];clear a hHeld;rw[b3]at U;clear b3
       refine hK.out _ _ ⟨ai.o.cz7,aj.o.cz7⟩ fun hHeld=>?_
       clear hK K
       try simp only[Lj,Lk,Lq]
       refine wpAnyH_done (by kernel_rfl) ?_ _;go_wp2
       go_meet
       exact⟨X,Y,E,F,y,z,_,rfl,al,am,U,ak,ah⟩
      go_simp;obtain⟨Q,T,J,_⟩:=aX ad 77 #[.b false,.sn,.i 0,.b false,.sn,.i 0,.b false];have a8:=bh.o.t J;have ar:=a4.o.b9 J;have au:=a5.o.b9 J;have av:=a6.o.b9 J;have aw:=a7.o.b9 J;have c8:=hI (show Blk Q ad.heap.size 77 #[.b false,.sn,.i 0,.b false,.sn,.i 0,.b false]by rw[T];exact Blk.new _ _ _);have c9:=hI (show w.heap.size≠ad.heap.size by have:=a6.o.lt;omega);have da:=hI (show w.heap.size+1≠ad.heap.size by have:=a7.o.lt;omega);have db:=hI (show w.heap.size+1+1≠ad.heap.size by have:=bi.o.lt;omega);rw[←T];clear T;clear hHeld
      refine hK.out _ _ ⟨av.o.cz7,aw.o.cz7⟩ fun hHeld=>?_
      clear hK K
      try simp only[Lj,Lk,Lq]
      refine wr1 4 fun K hK=>?_
      go_simp
      (with_reducible refine(more_in v.x.lo u.x.lo v.A u.A v.n v.c u.n u.c Q ar.o.l au.o.l ar.o.o.l au.o.o.l).mono ?_)
      rw[bz.o];rintro e N ⟨X,E,F,rfl,g,r⟩;have aa:=a8.o.t r;have bb:=ar.o.b9 r;have bc:=au.o.b9 r;have ab:=av.o.b9 r;have ac:=aw.o.b9 r;go_wp2_with fail;clear hHeld
      refine hK.out _ _ ⟨ab.o.cz7,ac.o.cz7⟩ fun hHeld=>?_
      clear hK K
      try simp only[Lj,Lk,Lq]
      refine wr1 9 fun K hK=>?_
      go_simp
      (with_reducible refine(less_in v.x.hi u.x.hi v.B u.B v.m v.d u.m u.d N bb.o.h bc.o.h bb.o.o.h bc.o.o.h).mono ?_)
      rw[bg.o];rintro e az ⟨Y,y,z,rfl,Z,C⟩;have ae:=ab.o.b9 C;have af:=ac.o.b9 C;have D:=hI ((c8.o.belowW r.o).belowW C.o);go_wp2_with fail;clear hHeld
      refine hK.out _ _ ⟨ae.o.cz7,af.o.cz7⟩ fun hHeld=>?_
      clear hK K
      try simp only[Lj,Lk,Lq]
      refine tkW 10 ?_
      refine wr1 12 fun K hK=>?_
      have ps:=D.o.cell;have fs:=D.o.frozen;go_simp;rw[store7_put D.o];clear ps fs;obtain⟨ao,b4⟩:=eX (#[.b p.neg,.l X E F,.i p.e,.b q.neg,.l Y y z,.i q.e,.b false]:Array Value);have ah:=hI ((aa.o.trans (C.o.mono aa.o.size)).trans (putB_below _ _ 77 ao (((show w.heap.size≤ad.heap.size from bh.o.size)))));have ai:=hI (ae.o.far (t':=77) ((c9.o)) ao);have aj:=hI (af.o.far (t':=77) ((da.o)) ao);have ak:=hI ((((bi.o.belowW J.o).belowW r.o).belowW C.o).far (t':=77) ((db.o)) ao);have al:=hI (((g.o).belowW C.o).far D.o noU7 (putB_grown _ _ 77 ao));have am:=hI ((Z.o).far D.o noU7 (putB_grown _ _ 77 ao));have U:=hI (D.o.put ao);obtain⟨cp,a⟩:=eX (putB az (ad.heap.size) 77 ao)
      try rw[←a]at ah
      try rw[←a]at ai
      try rw[←a]at aj
      try rw[←a]at ak
      try rw[←a]at al
      try rw[←a]at am
      try rw[←a]at U
      rw[←b4];rw[←a];clear a hHeld;rw[b4]at U;clear b4
      refine hK.out _ _ ⟨ai.o.cz7,aj.o.cz7⟩ fun hHeld=>?_
      clear hK K
      try simp only[Lj,Lk,Lq]
      refine wpAnyH_done (by kernel_rfl) ?_ _;go_wp2
      go_meet
      exact⟨X,Y,E,F,y,z,_,rfl,al,am,U,ak,ah⟩
     obtain⟨X,Y,E,F,y,z,gz,rfl,g,Z,HZ,i,s⟩:=hcut;obtain⟨wy,a⟩:=eX (wc);rw[←a]at g Z HZ i s ⊢;clear a L M V W;have cy:=HZ.o.cell;have fz:=HZ.o.frozen;obtain⟨cz,cq⟩:=eX (cmpD p q);have b8:=hI cq.symm;clear cq;go_wp2_with fail;refine(dcmp_any p q X Y E F y z wy g.o Z.o VM.o VL.o).mono ?_;rw[b8.o];rintro e ww5 ⟨rfl,a0⟩;have cs:=s.o.t a0;have dd:=g.o.b9 a0;have ap:=i.o.b9 a0;clear cy fz
     by_cases h0:0<cz
     ·
      have d0:decide (0<cz)=true:=decide_eq_true h0;have cc:=hI (show R=(⟨D0,D0,false⟩,false)by rw[HG.o,if_pos (by rw[b8.o];exact h0)]);clear h0 g;have g:=cc;have O:=hI (show false=R.2 by rw[g.o]);have P:=hI (show(ze9:IvN).x=R.1 by rw[g.o]<;>rfl);have j:=ap.o.cell;have G:=ap.o.frozen;go_wp2;rw[store7_put ap.o];obtain⟨H,s,i⟩:=putI (v:=ze9) (ze9_in _) ap.o noU7 cs.o (by omega);obtain⟨w9,a⟩:=eX (putB ww5 (w.heap.size+1+1) 77 #[.b false,.sn,.i 0,.b false,.sn,.i 0,.b false]);rw[show(ze9:IvN).cells=#[.b false,.sn,.i 0,.b false,.sn,.i 0,.b false]from rfl,←a]at H s i;rw[←a];clear a;clear j G;have j:=i.o.cell;have G:=i.o.frozen;refine bodyPost_ret (v:= .tuple #[.agg #[.b false,.sn,.i 0,.b false,.sn,.i 0,.b false],.b false]) (by simp[results,Tryz.results45,go_sem,j]) rfl ?_;exact⟨ze9,(by rw[←O.o]<;>rfl),P,H,s⟩
     have d0:decide (0<cz)=false:=decide_eq_false h0;have cc:=hI (show R=(⟨p,q,false⟩,true)by rw[HG.o,if_neg (by rw[b8.o];exact h0)]);clear h0 g;have g:=cc;have cy:=(HZ.o.belowW a0.o).cell;have fz:=(HZ.o.belowW a0.o).frozen;have O:=hI (show true=R.2 by rw[g.o]);have P:=hI (show(⟨⟨p,q,false⟩,X,E,F,Y,y,z⟩:IvN).x=R.1 by rw[g.o]<;>rfl);have j:=ap.o.cell;have G:=ap.o.frozen;go_wp2;rw[store7_put ap.o];obtain⟨H,s,i⟩:=putI (v:=⟨⟨p,q,false⟩,X,E,F,Y,y,z⟩) ⟨dd.o,(Z.o.belowW a0.o),⟨VM.o,VL.o,fun h=>by cases h⟩⟩ ap.o noU7 cs.o (by omega);obtain⟨w9,a⟩:=eX (putB ww5 (w.heap.size+1+1) 77 #[.b p.neg,.l X E F,.i p.e,.b q.neg,.l Y y z,.i q.e,.b false]);rw[show(⟨⟨p,q,false⟩,X,E,F,Y,y,z⟩:IvN).cells=#[.b p.neg,.l X E F,.i p.e,.b q.neg,.l Y y z,.i q.e,.b false]from rfl,←a]at H s i;rw[←a];clear a;clear cy fz j G;have j:=i.o.cell;have G:=i.o.frozen;refine bodyPost_ret (v:= .tuple #[.agg #[.b p.neg,.l X E F,.i p.e,.b q.neg,.l Y y z,.i q.e,.b false],.b true]) (by simp[results,Tryz.results45,go_sem,j]) rfl ?_;exact⟨⟨⟨p,q,false⟩,X,E,F,Y,y,z⟩,(by rw[←O.o]<;>rfl),P,H,s⟩
theorem meets_in(v u:IvN)(w:World)(hv:InI w v)(hu:InI w u):
 Calls Tryz.prog 18 #[.agg #[.b v.x.lo.neg,.l v.A v.n v.c,.i v.x.lo.e,.b v.x.hi.neg,.l v.B v.m v.d,.i v.x.hi.e,.b v.x.all],.agg #[.b u.x.lo.neg,.l u.A u.n u.c,.i u.x.lo.e,.b u.x.hi.neg,.l u.B u.m u.d,.i u.x.hi.e,.b u.x.all]] w (Ret (.b (meetB v.x u.x)) w):=by
 have HV:=hI hv;have HU:=hI hu;clear hv hu;have HL0:=hI (Below.refl w.heap.size w)
 go_in
 go_upto_region 1 with(fail);generalize hw9:World.alloc _ _=ww1;obtain⟨HB1,Na1,Nb1⟩:=gn2 hw9;clear hw9;have Z1l:=HL0.o.t HB1;have ca:=Na1.o.cell;have cb:=Nb1.o.cell;go_wp2_with fail;refine(imeet_in v u ww1 (HV.o.belowW HB1.o) (HU.o.belowW HB1.o)).mono ?_;rintro e ww2 ⟨q,rfl,HQ,HQI,HB2⟩;have Z2l:=Z1l.o.t HB2;clear ca cb;go_wp2;go_ret;exact⟨ret_bool (meet_b _ _),hI (Z2l.o.trans ((below_box _ _).mono Z2l.o.size))⟩
def ApplyAt(ap:Int→Int→Iv→Iv→Int→Iv)(kd:Int):Prop:=∀(k:Int) (v u:IvN) (p:Int) (w:World),InI w v→InI w u→RB w→Calls Tryz.prog 117 #[.i kd,.i k,.agg #[.b v.x.lo.neg,.l v.A v.n v.c,.i v.x.lo.e,.b v.x.hi.neg,.l v.B v.m v.d,.i v.x.hi.e,.b v.x.all],.agg #[.b u.x.lo.neg,.l u.A u.n u.c,.i u.x.lo.e,.b u.x.hi.neg,.l u.B u.m u.d,.i u.x.hi.e,.b u.x.all],.i p] w (IvQ (ap kd k v.x u.x p) w)
def ap0(kd k:Int)(x y:Iv)(p:Int):Iv:=if kd=3 then addI x y p else if kd=5 then mulI x y p else divI x y p
theorem apply_3:ApplyAt ap0 3:=by
 intro k v u p w hv hu hT;have D:=hI hv;have E:=hI hu;have F:=hI hT;clear hv hu hT;have G:=hI (Below.refl w.heap.size w)
 go_in
 go_upto_region 1 with(fail);generalize a:World.alloc _ _=ww1;obtain⟨b,l,o,H⟩:=gn3 a;clear a;have r:=G.o.t b;have I:=l.o.cell;have J:=l.o.frozen;have L:=o.o.cell;have M:=o.o.frozen;go_wp2_with fail;refine(iadd_in v u p ww1 (D.o.belowW b.o) (E.o.belowW b.o) (F.o.belowW b.o)).mono ?_;rintro e ww2 ⟨q,rfl,N,O,s⟩;have g:=H.o.b9 s;clear I J L M;have i:=g.o.cell;have y:=g.o.frozen;go_wp2;rw[store7_put g.o];obtain⟨z,C,j⟩:=putI (v:=q) O.o g.o noU7 (r.o.trans (s.o.mono r.o.size)) (by omega);obtain⟨w9,a⟩:=eX (putB ww2 (w.heap.size+1+1) 77 #[.b q.x.lo.neg,.l q.A q.n q.c,.i q.x.lo.e,.b q.x.hi.neg,.l q.B q.m q.d,.i q.x.hi.e,.b q.x.all]);rw[show(q:IvN).cells=#[.b q.x.lo.neg,.l q.A q.n q.c,.i q.x.lo.e,.b q.x.hi.neg,.l q.B q.m q.d,.i q.x.hi.e,.b q.x.all]from rfl,←a]at z C j;rw[←a];clear a;clear i y;have i:=j.o.cell;have y:=j.o.frozen;refine bodyPost_ret (v:= .agg #[.b q.x.lo.neg,.l q.A q.n q.c,.i q.x.lo.e,.b q.x.hi.neg,.l q.B q.m q.d,.i q.x.hi.e,.b q.x.all]) (by simp[results,Tryz.results117,go_sem,i]) rfl ?_;exact⟨q,rfl,N,z,C⟩
theorem apply_5:ApplyAt ap0 5:=by
 intro k v u p w hv hu hT;have D:=hI hv;have E:=hI hu;have F:=hI hT;clear hv hu hT;have G:=hI (Below.refl w.heap.size w)
 go_in
 go_upto_region 1 with(fail);generalize a:World.alloc _ _=ww1;obtain⟨b,l,o,H⟩:=gn3 a;clear a;have r:=G.o.t b;have I:=l.o.cell;have J:=l.o.frozen;have L:=o.o.cell;have M:=o.o.frozen;go_wp2_with fail;refine(imul_in v u p ww1 (D.o.belowW b.o) (E.o.belowW b.o) (F.o.belowW b.o)).mono ?_;rintro e ww2 ⟨q,rfl,N,O,s⟩;have g:=H.o.b9 s;clear I J L M;have i:=g.o.cell;have y:=g.o.frozen;go_wp2;rw[store7_put g.o];obtain⟨z,C,j⟩:=putI (v:=q) O.o g.o noU7 (r.o.trans (s.o.mono r.o.size)) (by omega);obtain⟨w9,a⟩:=eX (putB ww2 (w.heap.size+1+1) 77 #[.b q.x.lo.neg,.l q.A q.n q.c,.i q.x.lo.e,.b q.x.hi.neg,.l q.B q.m q.d,.i q.x.hi.e,.b q.x.all]);rw[show(q:IvN).cells=#[.b q.x.lo.neg,.l q.A q.n q.c,.i q.x.lo.e,.b q.x.hi.neg,.l q.B q.m q.d,.i q.x.hi.e,.b q.x.all]from rfl,←a]at z C j;rw[←a];clear a;clear i y;have i:=j.o.cell;have y:=j.o.frozen;refine bodyPost_ret (v:= .agg #[.b q.x.lo.neg,.l q.A q.n q.c,.i q.x.lo.e,.b q.x.hi.neg,.l q.B q.m q.d,.i q.x.hi.e,.b q.x.all]) (by simp[results,Tryz.results117,go_sem,i]) rfl ?_;exact⟨q,rfl,N,z,C⟩
theorem apply_6:ApplyAt ap0 6:=by
 intro k v u p w hv hu hT;have D:=hI hv;have E:=hI hu;have F:=hI hT;clear hv hu hT;have G:=hI (Below.refl w.heap.size w)
 go_in
 go_upto_region 1 with(fail);generalize a:World.alloc _ _=ww1;obtain⟨b,l,o,H⟩:=gn3 a;clear a;have r:=G.o.t b;have I:=l.o.cell;have J:=l.o.frozen;have L:=o.o.cell;have M:=o.o.frozen;go_wp2_with fail;refine(idiv_in v u p ww1 (D.o.belowW b.o) (E.o.belowW b.o) (F.o.belowW b.o)).mono ?_;rintro e ww2 ⟨q,rfl,N,O,s⟩;have g:=H.o.b9 s;clear I J L M;have i:=g.o.cell;have y:=g.o.frozen;go_wp2;rw[store7_put g.o];obtain⟨z,C,j⟩:=putI (v:=q) O.o g.o noU7 (r.o.trans (s.o.mono r.o.size)) (by omega);obtain⟨w9,a⟩:=eX (putB ww2 (w.heap.size+1+1) 77 #[.b q.x.lo.neg,.l q.A q.n q.c,.i q.x.lo.e,.b q.x.hi.neg,.l q.B q.m q.d,.i q.x.hi.e,.b q.x.all]);rw[show(q:IvN).cells=#[.b q.x.lo.neg,.l q.A q.n q.c,.i q.x.lo.e,.b q.x.hi.neg,.l q.B q.m q.d,.i q.x.hi.e,.b q.x.all]from rfl,←a]at z C j;rw[←a];clear a;clear i y;have i:=j.o.cell;have y:=j.o.frozen;refine bodyPost_ret (v:= .agg #[.b q.x.lo.neg,.l q.A q.n q.c,.i q.x.lo.e,.b q.x.hi.neg,.l q.B q.m q.d,.i q.x.hi.e,.b q.x.all]) (by simp[results,Tryz.results117,go_sem,i]) rfl ?_;exact⟨q,rfl,N,z,C⟩
