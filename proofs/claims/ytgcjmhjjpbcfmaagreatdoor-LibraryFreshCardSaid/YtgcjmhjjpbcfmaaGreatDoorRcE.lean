import Derived.Test.YtgcjmhjjpbcfmaaGreatDoorRcD
import Derived.Test.YtgcjmhjjpbcfmaaGreatDoorRk
open List renaming setIfInBounds_toArray → Lj,set_cons_zero → Lk,set_cons_succ → Lq,getElem_toArray → Ly,getElem_cons_zero → Lz,getElem_cons_succ → Lv
set_option maxHeartbeats 8000000
namespace Go.Fl
open Go.RowKit
variable {P:Program} {md:Region.Mode} {ops:Array Oper} {Q:Exit→Act→World→Prop} {S:World→Prop}
theorem memo_start{fuel:Nat}{listed:Array Bool}{a:Act}{w:World}(h:∀(G:Nat→Array Bool→Act→World→Prop) (A0:Act),Hid (G=wpAnyH P md ops Q S)→Hid (A0=a)→G fuel listed A0 w):wpAnyH P md ops Q S fuel listed a w:=h _ _ (hI rfl) (hI rfl)
end Go.Fl
namespace Go.Fl.Dy
open Go.Fl.Nm
end Go.Fl.Dy
namespace Go.Proofs.YtgcjmhjjpbcfmaaGreatDoor
open Go.RowKit Go.Fl Go.Fl.Nm Go.Fl.Dy Go.Fl.Rt
def EndsCut(W:World)(lo hi:D)(s s':Value)(wx:World):Prop:=
  ∃(g g':Nat) (A:Option Addr) (n c:Nat) (B:Option Addr) (m d:Nat),s= .pointer (some ⟨g,0,none⟩)∧s'= .pointer (some ⟨g',0,none⟩)∧Hid (Blk wx g 75 #[.bool lo.neg,.slice A n c,.int .i64 lo.e])∧Hid (Blk wx g' 75 #[.bool hi.neg,.slice B m d,.int .i64 hi.e])∧
    Hid (Sl wx A n c (limbs lo.k))∧Hid (Sl wx B m d (limbs hi.k))∧Hid (W.heap.size≤g)∧Hid (W.heap.size≤g')∧Hid (Below W.heap.size W wx)
theorem encloseR_pos(n d p:Int)(w:World)(h1: -9223372036854775808≤n)(h2:n≤9223372036854775807)(h3: -9223372036854775808≤d)(h4:d≤9223372036854775807)(hv:vB n d=true)(hp:8≤p)(hp2:p≤512)(hn:0<n):
 Calls Tryz.prog 19 #[.agg #[.i n,.i d],.i p] w (IvR (Dy.encR n d p) w):=by
 have HV:=hI hv;obtain⟨E,v2,v3,v4,_⟩:=vB_iff.1 hv;unfold MX at v2 v3 v4
 obtain⟨q,rfl⟩:∃q:Nat,p=q:=⟨p.toNat,by omega⟩
 obtain⟨k,rfl⟩:∃k:Nat,d=k:=⟨d.toNat,by omega⟩
 obtain⟨N,hN⟩:∃N,n.natAbs=N:=⟨_,rfl⟩
 have Q:=hI hN;have R:1≤N:=(by omega);have L:N≤1073741824:=(by omega);have T:1≤k:=(by omega);have M:k≤1073741824:=(by omega);have U:8≤q:=(by omega);have V:q≤512:=(by omega);have u:=hI (enc_bound (show N≠0 by omega) (show k≠0 by omega) L M (show 0<q by omega) (enc_spec (by omega) (by omega) (by omega)))
 obtain⟨lo,ad⟩:∃lo,canon false (encT N k q) (encU N k q)=lo:=⟨_,rfl⟩
 obtain⟨hi,ae⟩:∃hi,canon false (endQ (encT N k q) (encX N k q) true) (encU N k q)=hi:=⟨_,rfl⟩
 have W:=hI ad;have X:=hI ae
 have HR:=hI (show Dy.encR n k q=(lo,hi,false)by
  rw[encR_eq (vB_iff.1 hv) (by omega) (by omega)];unfold encE;rw[if_neg (by omega),if_neg (by omega),decide_eq_false (by omega:¬n<0),hN,Int.natAbs_natCast]
  exact Prod.ext ad (Prod.ext ae rfl))
 have dn:decide (n<0)=false:=dF;have d1:decide ((q:Int)<8)=false:=dF;have d2:decide (512<(q:Int))=false:=dF;have d3:(n==0)=false:=(by rw[beq_eq_false_iff_ne];omega);have dw:IntKind.u64.wrap (k:Int)=k:=(by rw[IntKind.wrap_u64];omega);clear hv hN ad ae u
 go_in
 go_wp2_with fail;generalize r:World.alloc _ _=w1;obtain⟨bd,af,be⟩:=gn2 r;clear r;have F:=af.o.cell;have H:=af.o.frozen;refine(valid_r n k w1 h1 h2 h3 h4).mono ?_;rw[HV.o];rintro e w2 ⟨rfl,ag⟩;have o:=af.o.b9 ag;have ar:=bd.o.t ag;clear F H;have F:=o.o.cell;have H:=o.o.frozen;go_wp2_with fail
 go_cut [5,6] (EndsCut w2 lo hi)
 case first=>
  have au:=hI (below_dr w2);have bf:=o.o.b9 au
  refine wp_region_held_drew (S:=fun w'=>cz2 w' w.heap.size (.i n) (.i k)) (by kernel_rfl) bf.o.cz2 fun hHeld=>?_
  refine tkW 0 ?_;refine tkW 1 ?_;refine tkW 3 ?_;refine tkW 4 ?_;refine tkW 5 ?_;refine tkW 6 ?_;refine memo_start ?_;intro G A0 HG HA0;clear hHeld
  have ah:∀(wr:World) (A:Option Addr) (m:Nat) (c:Nat) (B:Option Addr) (j:Nat) (l:Nat) (g0:Nat) (g1:Nat),Hid (Below w2.heap.size w2 wr)→Hid (Sl wr A m c (limbs lo.k))→Hid (Sl wr B j l (limbs hi.k))→Hid (Blk wr g0 75 #[.b false,.sn,.i 0])→Hid (w2.heap.size≤g0)→Hid (Blk wr g1 75 #[.b false,.sn,.i 0])→Hid (w2.heap.size≤g1)→g0≠g1→G 2 #[true,true,true,true,true,true,true,true,true,true,true,true,true,false,false] (((((((A0.put (some 26) (.int .u64 (N:Int))).put (some 31) (.tuple #[.agg #[.b lo.neg,.l A m c,.i lo.e],.agg #[.b hi.neg,.l B j l,.i hi.e]])).put (some 23) (.tuple #[.agg #[.b lo.neg,.l A m c,.i lo.e],.agg #[.b hi.neg,.l B j l,.i hi.e]])).put (some 32) (.agg #[.b lo.neg,.l A m c,.i lo.e])).put (some 33) (.agg #[.b hi.neg,.l B j l,.i hi.e])).put (some 5) (.p g0)).put (some 6) (.p g1)) wr:=by
   intro wr A m c B j l g0 g1 HW Fclo Fchi B0 L0 B1 L1 n01;rw[HG.o,HA0.o];clear HG HA0;simp only[Act.put,Lj,Lk,Lq];have z:=B0.o.cell;have y:=B0.o.frozen
   refine wr1 13 fun K hK=>?_
   go_simp;rw[store3_put B0.o];have x:=putB_grown wr g0 75 #[.b lo.neg,.l A m c,.i lo.e];obtain⟨C,r⟩:=eX (putB wr g0 75 #[.b lo.neg,.l A m c,.i lo.e]);have av:=hI (show Below w2.heap.size w2 C by rw[r];exact HW.o.trans (putB_below _ _ _ _ L0.o));have bg:=hI (show Blk C g0 75 #[.b lo.neg,.l A m c,.i lo.e]by rw[r];exact B0.o.put _);have I:=hI (show Blk C g1 75 #[.b false,.sn,.i 0]by rw[r];exact B1.o.far (Ne.symm n01) _);have bh:=hI (show Sl C A m c (limbs lo.k)by rw[r];exact Fclo.o.far B0.o noU3 x);have bi:=hI (show Sl C B j l (limbs hi.k)by rw[r];exact Fchi.o.far B0.o noU3 x);rw[←r];clear r x z y;have bj:=o.o.b9 av
   refine hK.out _ _ bj.o.cz2 fun hHeld=>?_
   clear hK K;simp only[Lj,Lk,Lq];have z:=I.o.cell;have y:=I.o.frozen
   refine wr1 14 fun K hK=>?_
   go_simp;rw[store3_put I.o];have x:=putB_grown C g1 75 #[.b hi.neg,.l B j l,.i hi.e];obtain⟨E,r⟩:=eX (putB C g1 75 #[.b hi.neg,.l B j l,.i hi.e]);have aw:=hI (show Below w2.heap.size w2 E by rw[r];exact av.o.trans (putB_below _ _ _ _ L1.o));have bk:=hI (show Blk E g1 75 #[.b hi.neg,.l B j l,.i hi.e]by rw[r];exact I.o.put _);have bl:=hI (show Blk E g0 75 #[.b lo.neg,.l A m c,.i lo.e]by rw[r];exact bg.o.far n01 _);have bm:=hI (show Sl E A m c (limbs lo.k)by rw[r];exact bh.o.far I.o noU3 x);have bn:=hI (show Sl E B j l (limbs hi.k)by rw[r];exact bi.o.far I.o noU3 x);rw[←r];clear r x z y;have bo:=o.o.b9 aw
   refine hK.out _ _ bo.o.cz2 fun hHeld=>?_
   clear hK K;simp only[Lj,Lk,Lq]
   refine wpAnyH_done (by kernel_rfl) ?_ _;go_wp2
   go_meet
   exact⟨g0,g1,A,m,c,B,j,l,rfl,rfl,bl,bk,bm,bn,L0,L1,aw⟩
  have ax:∀(wr:World) (A:Option Addr) (m:Nat) (c:Nat) (B:Option Addr) (j:Nat) (l:Nat) (g0:Nat),Hid (Below w2.heap.size w2 wr)→Hid (Sl wr A m c (limbs lo.k))→Hid (Sl wr B j l (limbs hi.k))→Hid (Blk wr g0 75 #[.b false,.sn,.i 0])→Hid (w2.heap.size≤g0)→G 3 #[true,true,true,true,true,true,true,true,true,true,true,true,false,false,false] ((((((A0.put (some 26) (.int .u64 (N:Int))).put (some 31) (.tuple #[.agg #[.b lo.neg,.l A m c,.i lo.e],.agg #[.b hi.neg,.l B j l,.i hi.e]])).put (some 23) (.tuple #[.agg #[.b lo.neg,.l A m c,.i lo.e],.agg #[.b hi.neg,.l B j l,.i hi.e]])).put (some 32) (.agg #[.b lo.neg,.l A m c,.i lo.e])).put (some 33) (.agg #[.b hi.neg,.l B j l,.i hi.e])).put (some 5) (.p g0)) wr:=by
   intro wr A m c B j l g0 HW Fclo Fchi B0 L0;rw[HG.o,HA0.o];simp only[Act.put,Lj,Lk,Lq];refine wpAnyH_ready (rs:=[12]) (by kernel_rfl) (by simp) ?_;refine AllReadyH.cons rfl (fun K hK=>?_) ?_
   case refine_1=>
    go_simp;have i:=hI (below_a1 wr (.cells #[.b false,.sn,.i 0] 75));have b:=HW.o.t i;refine hK.out _ _ ?_ (fun hHeld=>?_)
    case refine_1=>
     have g:=o.o.b9 b;exact⟨g.o.cell 0,g.o.cell 1⟩
    clear hK K;simp only[Lj,Lk,Lq];have a:=ah ((wr.alloc (.cells #[.b false,.sn,.i 0] 75))) A m c B j l g0 wr.heap.size b (Fclo.o.b9 i) (Fchi.o.b9 i) (B0.o.b9 i) L0 (hI (Blk.new _ _ _)) (hI HW.o.size) (Nat.ne_of_lt B0.o.lt);rw[HG.o,HA0.o]at a;simp only[Act.put,Lj,Lk,Lq]at a
    exact a
   exact AllReadyH.nil
  have ay:∀(wr:World) (A:Option Addr) (m:Nat) (c:Nat) (B:Option Addr) (j:Nat) (l:Nat) (g1:Nat),Hid (Below w2.heap.size w2 wr)→Hid (Sl wr A m c (limbs lo.k))→Hid (Sl wr B j l (limbs hi.k))→Hid (Blk wr g1 75 #[.b false,.sn,.i 0])→Hid (w2.heap.size≤g1)→G 3 #[true,true,true,true,true,true,true,true,true,true,true,false,true,false,false] ((((((A0.put (some 26) (.int .u64 (N:Int))).put (some 31) (.tuple #[.agg #[.b lo.neg,.l A m c,.i lo.e],.agg #[.b hi.neg,.l B j l,.i hi.e]])).put (some 23) (.tuple #[.agg #[.b lo.neg,.l A m c,.i lo.e],.agg #[.b hi.neg,.l B j l,.i hi.e]])).put (some 32) (.agg #[.b lo.neg,.l A m c,.i lo.e])).put (some 33) (.agg #[.b hi.neg,.l B j l,.i hi.e])).put (some 6) (.p g1)) wr:=by
   intro wr A m c B j l g1 HW Fclo Fchi B1 L1;rw[HG.o,HA0.o];simp only[Act.put,Lj,Lk,Lq];refine wpAnyH_ready (rs:=[11]) (by kernel_rfl) (by simp) ?_;refine AllReadyH.cons rfl (fun K hK=>?_) ?_
   case refine_1=>
    go_simp;have i:=hI (below_a1 wr (.cells #[.b false,.sn,.i 0] 75));have b:=HW.o.t i;refine hK.out _ _ ?_ (fun hHeld=>?_)
    case refine_1=>
     have g:=o.o.b9 b;exact⟨g.o.cell 0,g.o.cell 1⟩
    clear hK K;simp only[Lj,Lk,Lq];have a:=ah ((wr.alloc (.cells #[.b false,.sn,.i 0] 75))) A m c B j l wr.heap.size g1 b (Fclo.o.b9 i) (Fchi.o.b9 i) (hI (Blk.new _ _ _)) (hI HW.o.size) (B1.o.b9 i) L1 (Nat.ne_of_gt B1.o.lt);rw[HG.o,HA0.o]at a;simp only[Act.put,Lj,Lk,Lq]at a
    exact a
   exact AllReadyH.nil
  have bp:∀(wr:World) (A:Option Addr) (m:Nat) (c:Nat) (B:Option Addr) (j:Nat) (l:Nat),Hid (Below w2.heap.size w2 wr)→Hid (Sl wr A m c (limbs lo.k))→Hid (Sl wr B j l (limbs hi.k))→G 4 #[true,true,true,true,true,true,true,true,true,true,true,false,false,false,false] (((((A0.put (some 26) (.int .u64 (N:Int))).put (some 31) (.tuple #[.agg #[.b lo.neg,.l A m c,.i lo.e],.agg #[.b hi.neg,.l B j l,.i hi.e]])).put (some 23) (.tuple #[.agg #[.b lo.neg,.l A m c,.i lo.e],.agg #[.b hi.neg,.l B j l,.i hi.e]])).put (some 32) (.agg #[.b lo.neg,.l A m c,.i lo.e])).put (some 33) (.agg #[.b hi.neg,.l B j l,.i hi.e])) wr:=by
   intro wr A m c B j l HW Fclo Fchi;rw[HG.o,HA0.o];simp only[Act.put,Lj,Lk,Lq];refine wpAnyH_ready (rs:=[11,12]) (by kernel_rfl) (by simp) ?_;refine AllReadyH.cons rfl (fun K hK=>?_) ?_
   case refine_1=>
    go_simp;have i:=hI (below_a1 wr (.cells #[.b false,.sn,.i 0] 75));have b:=HW.o.t i;refine hK.out _ _ ?_ (fun hHeld=>?_)
    case refine_1=>
     have g:=o.o.b9 b;exact⟨g.o.cell 0,g.o.cell 1⟩
    clear hK K;simp only[Lj,Lk,Lq];have a:=ax ((wr.alloc (.cells #[.b false,.sn,.i 0] 75))) A m c B j l wr.heap.size b (Fclo.o.b9 i) (Fchi.o.b9 i) (hI (Blk.new _ _ _)) (hI HW.o.size);rw[HG.o,HA0.o]at a;simp only[Act.put,Lj,Lk,Lq]at a
    exact a
   refine AllReadyH.cons rfl (fun K hK=>?_) ?_
   case refine_1=>
    go_simp;have i:=hI (below_a1 wr (.cells #[.b false,.sn,.i 0] 75));have b:=HW.o.t i;refine hK.out _ _ ?_ (fun hHeld=>?_)
    case refine_1=>
     have g:=o.o.b9 b;exact⟨g.o.cell 0,g.o.cell 1⟩
    clear hK K;simp only[Lj,Lk,Lq];have a:=ay ((wr.alloc (.cells #[.b false,.sn,.i 0] 75))) A m c B j l wr.heap.size b (Fclo.o.b9 i) (Fchi.o.b9 i) (hI (Blk.new _ _ _)) (hI HW.o.size);rw[HG.o,HA0.o]at a;simp only[Act.put,Lj,Lk,Lq]at a
    exact a
   exact AllReadyH.nil
  have ai:∀(wr:World) (g0:Nat) (g1:Nat),Hid (Below w2.heap.size w2 wr)→Hid (Blk wr g0 75 #[.b false,.sn,.i 0])→Hid (w2.heap.size≤g0)→Hid (Blk wr g1 75 #[.b false,.sn,.i 0])→Hid (w2.heap.size≤g1)→g0≠g1→G 6 #[true,true,true,true,true,true,true,false,false,false,false,true,true,false,false] (((A0.put (some 26) (.int .u64 (N:Int))).put (some 5) (.p g0)).put (some 6) (.p g1)) wr:=by
   intro wr g0 g1 HW B0 L0 B1 L1 n01;rw[HG.o,HA0.o];simp only[Act.put,Lj,Lk,Lq];refine wpAnyH_ready (rs:=[7]) (by kernel_rfl) (by simp) ?_;refine AllReadyH.cons rfl (fun K hK=>?_) ?_
   case refine_1=>
    go_simp
    (with_reducible refine(ends_r N k q _ R L T M U V).mono ?_)
    rw[W.o,X.o];rintro e wn ⟨A,m,c,B,j,l,rfl,D,u,i⟩;go_wp2_with fail;have b:=HW.o.t i;refine hK.out _ _ ?_ (fun hHeld=>?_)
    case refine_1=>
     have g:=o.o.b9 b;exact⟨g.o.cell 0,g.o.cell 1⟩
    clear hK K;simp only[Lj,Lk,Lq]
    refine tkW 8 ?_;refine tkW 9 ?_;refine tkW 10 ?_;have a:=ah wn A m c B j l g0 g1 b (hI (D.o)) (hI (u.o)) (B0.o.b9 i) L0 (B1.o.b9 i) L1 n01;rw[HG.o,HA0.o]at a;simp only[Act.put,Lj,Lk,Lq]at a;exact a
   exact AllReadyH.nil
  have az:∀(wr:World) (g0:Nat),Hid (Below w2.heap.size w2 wr)→Hid (Blk wr g0 75 #[.b false,.sn,.i 0])→Hid (w2.heap.size≤g0)→G 7 #[true,true,true,true,true,true,true,false,false,false,false,true,false,false,false] ((A0.put (some 26) (.int .u64 (N:Int))).put (some 5) (.p g0)) wr:=by
   intro wr g0 HW B0 L0;rw[HG.o,HA0.o];simp only[Act.put,Lj,Lk,Lq];refine wpAnyH_ready (rs:=[7,12]) (by kernel_rfl) (by simp) ?_;refine AllReadyH.cons rfl (fun K hK=>?_) ?_
   case refine_1=>
    go_simp
    (with_reducible refine(ends_r N k q _ R L T M U V).mono ?_)
    rw[W.o,X.o];rintro e wn ⟨A,m,c,B,j,l,rfl,D,u,i⟩;go_wp2_with fail;have b:=HW.o.t i;refine hK.out _ _ ?_ (fun hHeld=>?_)
    case refine_1=>
     have g:=o.o.b9 b;exact⟨g.o.cell 0,g.o.cell 1⟩
    clear hK K;simp only[Lj,Lk,Lq]
    refine tkW 8 ?_;refine tkW 9 ?_;refine tkW 10 ?_;have a:=ax wn A m c B j l g0 b (hI (D.o)) (hI (u.o)) (B0.o.b9 i) L0;rw[HG.o,HA0.o]at a;simp only[Act.put,Lj,Lk,Lq]at a;exact a
   refine AllReadyH.cons rfl (fun K hK=>?_) ?_
   case refine_1=>
    go_simp;have i:=hI (below_a1 wr (.cells #[.b false,.sn,.i 0] 75));have b:=HW.o.t i;refine hK.out _ _ ?_ (fun hHeld=>?_)
    case refine_1=>
     have g:=o.o.b9 b;exact⟨g.o.cell 0,g.o.cell 1⟩
    clear hK K;simp only[Lj,Lk,Lq];have a:=ai ((wr.alloc (.cells #[.b false,.sn,.i 0] 75))) g0 wr.heap.size b (B0.o.b9 i) L0 (hI (Blk.new _ _ _)) (hI HW.o.size) (Nat.ne_of_lt B0.o.lt);rw[HG.o,HA0.o]at a;simp only[Act.put,Lj,Lk,Lq]at a
    exact a
   exact AllReadyH.nil
  have a0:∀(wr:World) (g1:Nat),Hid (Below w2.heap.size w2 wr)→Hid (Blk wr g1 75 #[.b false,.sn,.i 0])→Hid (w2.heap.size≤g1)→G 7 #[true,true,true,true,true,true,true,false,false,false,false,false,true,false,false] ((A0.put (some 26) (.int .u64 (N:Int))).put (some 6) (.p g1)) wr:=by
   intro wr g1 HW B1 L1;rw[HG.o,HA0.o];simp only[Act.put,Lj,Lk,Lq];refine wpAnyH_ready (rs:=[7,11]) (by kernel_rfl) (by simp) ?_;refine AllReadyH.cons rfl (fun K hK=>?_) ?_
   case refine_1=>
    go_simp
    (with_reducible refine(ends_r N k q _ R L T M U V).mono ?_)
    rw[W.o,X.o];rintro e wn ⟨A,m,c,B,j,l,rfl,D,u,i⟩;go_wp2_with fail;have b:=HW.o.t i;refine hK.out _ _ ?_ (fun hHeld=>?_)
    case refine_1=>
     have g:=o.o.b9 b;exact⟨g.o.cell 0,g.o.cell 1⟩
    clear hK K;simp only[Lj,Lk,Lq]
    refine tkW 8 ?_;refine tkW 9 ?_;refine tkW 10 ?_;have a:=ay wn A m c B j l g1 b (hI (D.o)) (hI (u.o)) (B1.o.b9 i) L1;rw[HG.o,HA0.o]at a;simp only[Act.put,Lj,Lk,Lq]at a;exact a
   refine AllReadyH.cons rfl (fun K hK=>?_) ?_
   case refine_1=>
    go_simp;have i:=hI (below_a1 wr (.cells #[.b false,.sn,.i 0] 75));have b:=HW.o.t i;refine hK.out _ _ ?_ (fun hHeld=>?_)
    case refine_1=>
     have g:=o.o.b9 b;exact⟨g.o.cell 0,g.o.cell 1⟩
    clear hK K;simp only[Lj,Lk,Lq];have a:=ai ((wr.alloc (.cells #[.b false,.sn,.i 0] 75))) wr.heap.size g1 b (hI (Blk.new _ _ _)) (hI HW.o.size) (B1.o.b9 i) L1 (Nat.ne_of_gt B1.o.lt);rw[HG.o,HA0.o]at a;simp only[Act.put,Lj,Lk,Lq]at a
    exact a
   exact AllReadyH.nil
  have bq:∀(wr:World),Hid (Below w2.heap.size w2 wr)→G 8 #[true,true,true,true,true,true,true,false,false,false,false,false,false,false,false] (A0.put (some 26) (.int .u64 (N:Int))) wr:=by
   intro wr HW;rw[HG.o,HA0.o];simp only[Act.put,Lj,Lk,Lq];refine wpAnyH_ready (rs:=[7,11,12]) (by kernel_rfl) (by simp) ?_;refine AllReadyH.cons rfl (fun K hK=>?_) ?_
   case refine_1=>
    go_simp
    (with_reducible refine(ends_r N k q _ R L T M U V).mono ?_)
    rw[W.o,X.o];rintro e wn ⟨A,m,c,B,j,l,rfl,D,u,i⟩;go_wp2_with fail;have b:=HW.o.t i;refine hK.out _ _ ?_ (fun hHeld=>?_)
    case refine_1=>
     have g:=o.o.b9 b;exact⟨g.o.cell 0,g.o.cell 1⟩
    clear hK K;simp only[Lj,Lk,Lq]
    refine tkW 8 ?_;refine tkW 9 ?_;refine tkW 10 ?_;have a:=bp wn A m c B j l b (hI (D.o)) (hI (u.o));rw[HG.o,HA0.o]at a;simp only[Act.put,Lj,Lk,Lq]at a;exact a
   refine AllReadyH.cons rfl (fun K hK=>?_) ?_
   case refine_1=>
    go_simp;have b:=hI (HW.o.trans ((below_a1 wr (.cells #[.b false,.sn,.i 0] 75)).mono HW.o.size));refine hK.out _ _ ?_ (fun hHeld=>?_)
    case refine_1=>
     have g:=o.o.b9 b;exact⟨g.o.cell 0,g.o.cell 1⟩
    clear hK K;simp only[Lj,Lk,Lq];have a:=az ((wr.alloc (.cells #[.b false,.sn,.i 0] 75))) wr.heap.size b (hI (Blk.new _ _ _)) (hI HW.o.size);rw[HG.o,HA0.o]at a;simp only[Act.put,Lj,Lk,Lq]at a
    exact a
   refine AllReadyH.cons rfl (fun K hK=>?_) ?_
   case refine_1=>
    go_simp;have b:=hI (HW.o.trans ((below_a1 wr (.cells #[.b false,.sn,.i 0] 75)).mono HW.o.size));refine hK.out _ _ ?_ (fun hHeld=>?_)
    case refine_1=>
     have g:=o.o.b9 b;exact⟨g.o.cell 0,g.o.cell 1⟩
    clear hK K;simp only[Lj,Lk,Lq];have a:=a0 ((wr.alloc (.cells #[.b false,.sn,.i 0] 75))) wr.heap.size b (hI (Blk.new _ _ _)) (hI HW.o.size);rw[HG.o,HA0.o]at a;simp only[Act.put,Lj,Lk,Lq]at a
    exact a
   exact AllReadyH.nil
  have a1:∀(wr:World) (g0:Nat) (g1:Nat),Hid (Below w2.heap.size w2 wr)→Hid (Blk wr g0 75 #[.b false,.sn,.i 0])→Hid (w2.heap.size≤g0)→Hid (Blk wr g1 75 #[.b false,.sn,.i 0])→Hid (w2.heap.size≤g1)→g0≠g1→G 7 #[true,true,false,true,true,true,true,false,false,false,false,true,true,false,false] ((A0.put (some 5) (.p g0)).put (some 6) (.p g1)) wr:=by
   intro wr g0 g1 HW B0 L0 B1 L1 n01;rw[HG.o,HA0.o];simp only[Act.put,Lj,Lk,Lq];refine wpAnyH_ready (rs:=[2]) (by kernel_rfl) (by simp) ?_;refine AllReadyH.cons rfl (fun K hK=>?_) ?_
   case refine_1=>
    go_simp
    (with_reducible refine(size_r n _ h1 h2).mono ?_)
    rw[Q.o];rintro e wn ⟨rfl,s⟩;have i:=hI (show Below wr.heap.size wr wn by rw[←s];exact Below.refl _ _);clear s;go_wp2_with fail;have b:=HW.o.t i;refine hK.out _ _ ?_ (fun hHeld=>?_)
    case refine_1=>
     have g:=o.o.b9 b;exact⟨g.o.cell 0,g.o.cell 1⟩
    clear hK K;simp only[Lj,Lk,Lq];have a:=ai wn g0 g1 b (B0.o.b9 i) L0 (B1.o.b9 i) L1 n01;rw[HG.o,HA0.o]at a;simp only[Act.put,Lj,Lk,Lq]at a
    exact a
   exact AllReadyH.nil
  have br:∀(wr:World) (g0:Nat),Hid (Below w2.heap.size w2 wr)→Hid (Blk wr g0 75 #[.b false,.sn,.i 0])→Hid (w2.heap.size≤g0)→G 8 #[true,true,false,true,true,true,true,false,false,false,false,true,false,false,false] (A0.put (some 5) (.p g0)) wr:=by
   intro wr g0 HW B0 L0;rw[HG.o,HA0.o];simp only[Act.put,Lj,Lk,Lq];refine wpAnyH_ready (rs:=[2,12]) (by kernel_rfl) (by simp) ?_;refine AllReadyH.cons rfl (fun K hK=>?_) ?_
   case refine_1=>
    go_simp
    (with_reducible refine(size_r n _ h1 h2).mono ?_)
    rw[Q.o];rintro e wn ⟨rfl,s⟩;have i:=hI (show Below wr.heap.size wr wn by rw[←s];exact Below.refl _ _);clear s;go_wp2_with fail;have b:=HW.o.t i;refine hK.out _ _ ?_ (fun hHeld=>?_)
    case refine_1=>
     have g:=o.o.b9 b;exact⟨g.o.cell 0,g.o.cell 1⟩
    clear hK K;simp only[Lj,Lk,Lq];have a:=az wn g0 b (B0.o.b9 i) L0;rw[HG.o,HA0.o]at a;simp only[Act.put,Lj,Lk,Lq]at a
    exact a
   refine AllReadyH.cons rfl (fun K hK=>?_) ?_
   case refine_1=>
    go_simp;have i:=hI (below_a1 wr (.cells #[.b false,.sn,.i 0] 75));have b:=HW.o.t i;refine hK.out _ _ ?_ (fun hHeld=>?_)
    case refine_1=>
     have g:=o.o.b9 b;exact⟨g.o.cell 0,g.o.cell 1⟩
    clear hK K;simp only[Lj,Lk,Lq];have a:=a1 ((wr.alloc (.cells #[.b false,.sn,.i 0] 75))) g0 wr.heap.size b (B0.o.b9 i) L0 (hI (Blk.new _ _ _)) (hI HW.o.size) (Nat.ne_of_lt B0.o.lt);rw[HG.o,HA0.o]at a;simp only[Act.put,Lj,Lk,Lq]at a
    exact a
   exact AllReadyH.nil
  have bs:∀(wr:World) (g1:Nat),Hid (Below w2.heap.size w2 wr)→Hid (Blk wr g1 75 #[.b false,.sn,.i 0])→Hid (w2.heap.size≤g1)→G 8 #[true,true,false,true,true,true,true,false,false,false,false,false,true,false,false] (A0.put (some 6) (.p g1)) wr:=by
   intro wr g1 HW B1 L1;rw[HG.o,HA0.o];simp only[Act.put,Lj,Lk,Lq];refine wpAnyH_ready (rs:=[2,11]) (by kernel_rfl) (by simp) ?_;refine AllReadyH.cons rfl (fun K hK=>?_) ?_
   case refine_1=>
    go_simp
    (with_reducible refine(size_r n _ h1 h2).mono ?_)
    rw[Q.o];rintro e wn ⟨rfl,s⟩;have i:=hI (show Below wr.heap.size wr wn by rw[←s];exact Below.refl _ _);clear s;go_wp2_with fail;have b:=HW.o.t i;refine hK.out _ _ ?_ (fun hHeld=>?_)
    case refine_1=>
     have g:=o.o.b9 b;exact⟨g.o.cell 0,g.o.cell 1⟩
    clear hK K;simp only[Lj,Lk,Lq];have a:=a0 wn g1 b (B1.o.b9 i) L1;rw[HG.o,HA0.o]at a;simp only[Act.put,Lj,Lk,Lq]at a
    exact a
   refine AllReadyH.cons rfl (fun K hK=>?_) ?_
   case refine_1=>
    go_simp;have i:=hI (below_a1 wr (.cells #[.b false,.sn,.i 0] 75));have b:=HW.o.t i;refine hK.out _ _ ?_ (fun hHeld=>?_)
    case refine_1=>
     have g:=o.o.b9 b;exact⟨g.o.cell 0,g.o.cell 1⟩
    clear hK K;simp only[Lj,Lk,Lq];have a:=a1 ((wr.alloc (.cells #[.b false,.sn,.i 0] 75))) wr.heap.size g1 b (hI (Blk.new _ _ _)) (hI HW.o.size) (B1.o.b9 i) L1 (Nat.ne_of_gt B1.o.lt);rw[HG.o,HA0.o]at a;simp only[Act.put,Lj,Lk,Lq]at a
    exact a
   exact AllReadyH.nil
  have bt:∀(wr:World),Hid (Below w2.heap.size w2 wr)→G 9 #[true,true,false,true,true,true,true,false,false,false,false,false,false,false,false] A0 wr:=by
   intro wr HW;rw[HG.o,HA0.o];refine wpAnyH_ready (rs:=[2,11,12]) (by kernel_rfl) (by simp) ?_;refine AllReadyH.cons rfl (fun K hK=>?_) ?_
   case refine_1=>
    go_simp
    (with_reducible refine(size_r n _ h1 h2).mono ?_)
    rw[Q.o];rintro e wn ⟨rfl,s⟩;have i:=hI (show Below wr.heap.size wr wn by rw[←s];exact Below.refl _ _);clear s;go_wp2_with fail;have b:=HW.o.t i;refine hK.out _ _ ?_ (fun hHeld=>?_)
    case refine_1=>
     have g:=o.o.b9 b;exact⟨g.o.cell 0,g.o.cell 1⟩
    clear hK K;simp only[Lj,Lk,Lq];have a:=bq wn b;rw[HG.o,HA0.o]at a;simp only[Act.put,Lj,Lk,Lq]at a
    exact a
   refine AllReadyH.cons rfl (fun K hK=>?_) ?_
   case refine_1=>
    go_simp;have b:=hI (HW.o.trans ((below_a1 wr (.cells #[.b false,.sn,.i 0] 75)).mono HW.o.size));refine hK.out _ _ ?_ (fun hHeld=>?_)
    case refine_1=>
     have g:=o.o.b9 b;exact⟨g.o.cell 0,g.o.cell 1⟩
    clear hK K;simp only[Lj,Lk,Lq];have a:=br ((wr.alloc (.cells #[.b false,.sn,.i 0] 75))) wr.heap.size b (hI (Blk.new _ _ _)) (hI HW.o.size);rw[HG.o,HA0.o]at a;simp only[Act.put,Lj,Lk,Lq]at a
    exact a
   refine AllReadyH.cons rfl (fun K hK=>?_) ?_
   case refine_1=>
    go_simp;have b:=hI (HW.o.trans ((below_a1 wr (.cells #[.b false,.sn,.i 0] 75)).mono HW.o.size));refine hK.out _ _ ?_ (fun hHeld=>?_)
    case refine_1=>
     have g:=o.o.b9 b;exact⟨g.o.cell 0,g.o.cell 1⟩
    clear hK K;simp only[Lj,Lk,Lq];have a:=bs ((wr.alloc (.cells #[.b false,.sn,.i 0] 75))) wr.heap.size b (hI (Blk.new _ _ _)) (hI HW.o.size);rw[HG.o,HA0.o]at a;simp only[Act.put,Lj,Lk,Lq]at a
    exact a
   exact AllReadyH.nil
  have a:=bt _ au;rw[HG.o,HA0.o]at a ⊢;exact a
 obtain⟨ga,gb,A,m,c,B,j,l,rfl,rfl,O,P,FS,FU,b2,b3,Y⟩:=hcut;obtain⟨w4,r⟩:=eX (wc);rw[←r]at O P FS FU Y ⊢;clear r;have Z:=o.o.b9 Y;have J:=hI ((be.o.belowW ag.o).belowW Y.o);have F:=Z.o.cell;have H:=Z.o.frozen;have ak:=O.o.cell;have al:=O.o.frozen;have am:=P.o.cell;have an:=P.o.frozen;clear F H ak al am an;have pr:=J.o.cell;have fr:=J.o.frozen;have F:=Z.o.cell;have H:=Z.o.frozen;have ak:=O.o.cell;have al:=O.o.frozen;have am:=P.o.cell;have an:=P.o.frozen;go_wp2;rw[store7_put J.o];obtain⟨aa,ap⟩:=eX (#[.b lo.neg,.l A m c,.i lo.e,.b hi.neg,.l B j l,.i hi.e,.b false]:Array Value);have ab:=hI (J.o.put aa);have a5:=hI ((ar.o.trans (Y.o.mono ar.o.size)).trans (putB_below w4 _ 77 aa (by omega:w.heap.size≤w.heap.size+1)));have G9:=putB_grown w4 (w.heap.size+1) 77 aa;have a6:=hI (FS.o.far J.o noU7 G9);have a7:=hI (FU.o.far J.o noU7 G9);clear G9 pr fr F H ak al am an;obtain⟨w9,r⟩:=eX (putB w4 (w.heap.size+1) 77 aa);rw[←ap];rw[←r]at ab a5 a6 a7 ⊢;clear r;rw[ap]at ab;clear ap;have pr:=ab.o.cell;have fr:=ab.o.frozen;refine bodyPost_ret (v:= .agg #[.b lo.neg,.l A m c,.i lo.e,.b hi.neg,.l B j l,.i hi.e,.b false]) (by simp[results,Tryz.results19,go_sem,pr]) rfl ?_;rw[HR.o];exact⟨A,B,m,c,j,l,rfl,a6,a7,a5⟩
