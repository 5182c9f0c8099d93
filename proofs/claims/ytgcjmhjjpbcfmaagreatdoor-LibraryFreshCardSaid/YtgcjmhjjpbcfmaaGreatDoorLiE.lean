import Derived.Test.YtgcjmhjjpbcfmaaGreatDoorLiD
set_option linter.unusedVariables false
set_option maxHeartbeats 4000000
namespace Go.Fl.Lb
open Go.Lib Go.Fl.Nm Go.Fl.Dy
theorem sumL_bd{a b:D}{P:Nat}(va:vld a)(vb:vld b)(h8:8≤P)(h512:P≤512)(ht:topD b≤topD a):sumLow a b P≤a.e∧topD a-sumLow a b P≤5000∧ -40000≤sumLow a b P:=by
 have h1:=vld_ebd va;have h2:=vld_ebd vb;have h3:=vld_bits va;have h4:=vld_bits vb;unfold topD at ht;unfold sumLow topD
 split<;>omega
def sumF(na nb:Bool)(x:Nat)(low:Int)(y:Nat×Bool):Nat×Int×Bool×Bool:=
  if na=nb then(x+y.1,low,y.2,false)
  else
    let z:=y.1+(if y.2 then 1 else 0)
    if x<z then(z-x,low,false,true)else(x-z,low,y.2,false)
theorem sum_bd{a b:D}{P:Nat}(va:vld a)(vb:vld b)(h8:8≤P)(h512:P≤512)(hy:a.k≠0)(hz:b.k≠0)(ht:topD b≤topD a):
 blen (sumR a b P).1≤5002∧ -40000≤(sumR a b P).2.1∧(sumR a b P).2.1≤20000:=by
 obtain⟨j,f,c⟩:=sumL_bd va vb h8 h512 ht;have m:=vld_ebd va;have n:=vld_bits vb;have e:sumR a b P=sumF a.neg b.neg (2^(a.e-sumLow a b P).toNat*a.k) (sumLow a b P) (sumY b (sumLow a b P)):=rfl;rw[e]
 generalize sumLow a b P=L at j f c ⊢
 have i:blen (2^(a.e-L).toNat*a.k)≤5000:=by rw[blen_shl _ hy];unfold topD at f;omega
 have d:blen (sumY b L).1≤5000:=by
  unfold sumY
  split
  ·
   show blen (2^(b.e-L).toNat*b.k)≤5000
   rw[blen_shl _ hz];unfold topD at f ht;omega
  show blen (b.k/2^(L-b.e).toNat)≤5000
  have:=blen_div_le b.k (L-b.e).toNat;omega
 generalize 2^(a.e-L).toNat*a.k=X at i ⊢
 generalize sumY b L=Y at d ⊢
 obtain⟨y,g⟩:=Y;have l:blen (y+(if g then 1 else 0))≤5001:=(by have:=blen_succ y;cases g<;>simp at d ⊢ <;>omega);unfold sumF;simp only at d ⊢
 split
 ·
  have:=@Go.Proofs.YtgcjmhjjpbcfmaaGreatDoor.blen_add9 _ _ _ i d;refine⟨?_,c,?_⟩<;>simp only<;>omega
 generalize y+(if g then 1 else 0)=Z at l ⊢
 split
 ·
  have:=blen_mono (Nat.sub_le Z X);refine⟨?_,c,?_⟩<;>simp only<;>omega
 have:=blen_mono (Nat.sub_le X Z);refine⟨?_,c,?_⟩<;>simp only<;>omega
end Go.Fl.Lb
namespace Go.Proofs.YtgcjmhjjpbcfmaaGreatDoor
open Go.RowKit Go.Fl Go.Fl.Nm Go.Fl.Dy Go.Fl.Lb
theorem add_range(a b:D)(A B:Option Addr)(n c m d:Nat)(p:Int)(up:Bool)(w:World)(ha:Sl w A n c (limbs a.k))(hb:Sl w B m d (limbs b.k))(va:vld a)(vb:vld b)(hT:RB w)(hp:precB p=false):
 Calls Tryz.prog 235 #[.agg #[.b a.neg,.l A n c,.i a.e],.agg #[.b b.neg,.l B m d,.i b.e],.i p,.b up] w (DyE (addE a b p up) w):=by
 have s:=hI ha;have u:=hI hb;have x:=hI va;have y:=hI vb;have O:n≤256:=(by rw[←ha.len];exact vld_len va);have P:m≤256:=(by rw[←hb.len];exact vld_len vb);have Q:=hI ha.len;have R:=hI hb.len;clear ha hb va vb hT;have z:=hI (show errP p=2 by unfold errP;rw[hp];rfl);have C:=hI (show addE a b p up=(D0,2)by unfold addE;rw[hp];rfl);clear hp;have E:=hI (Below.refl w.heap.size w)
 go_in
 go_upto_region 1 with(fail);generalize hw9:World.alloc _ _=ww1;obtain⟨i,l,o,F⟩:=gn3 hw9;clear hw9;have G:=E.o.t i;have H:=l.o.cell;have I:=l.o.frozen;have J:=o.o.cell;have L:=o.o.frozen;go_wp2_with fail;generalize hw9:World.alloc _ _=ww2;obtain⟨g,M⟩:=gn1 hw9;clear hw9;have q:=G.o.t g;clear H I J L;refine(fault2_any p (ww1.heap.size) a A n c b B m d ww2 M.o ((s.o.belowW i.o).belowW g.o) x.o ((u.o.belowW i.o).belowW g.o) y.o).mono ?_;rintro e ww3 ⟨rfl,r⟩;have j:=hI ((F.o.belowW g.o).belowW r.o);rw[z.o];have N:=j.o.cell;have S:=j.o.frozen;go_wp2;refine bodyPost_ret (v:= .tuple #[.agg #[.b false,.sn,.i 0],.i 2]) (by simp[results,Tryz.results235,go_sem,N]) rfl ?_;rw[C.o];exact⟨none,0,0,rfl,hI (by show Sl _ none 0 0 (limbs 0);rw[limbs_zero];exact Sl.none_ _),hI (store3_below (q.o.trans (r.o.mono q.o.size)) j.o _ _ _ (by omega))⟩
theorem add_null1(a b:D)(A B:Option Addr)(n c m d:Nat)(p:Int)(up:Bool)(w:World)(ha:Sl w A n c (limbs a.k))(hb:Sl w B m d (limbs b.k))(va:vld a)(vb:vld b)(hT:RB w)(hp:precB p=true)(hy:a.k=0):
 Calls Tryz.prog 235 #[.agg #[.b a.neg,.l A n c,.i a.e],.agg #[.b b.neg,.l B m d,.i b.e],.i p,.b up] w (DyE (addE a b p up) w):=by
 have I:=hI ha;have J:=hI hb;have L:=hI va;have z:=hI vb;have M:=hI hT;have Y:n≤256:=(by rw[←ha.len];exact vld_len va);have Z:m≤256:=(by rw[←hb.len];exact vld_len vb);have N:=hI ha.len;have aa:=hI hb.len;clear ha hb va vb hT;have O:=hI (show errP p=0 by unfold errP;rw[hp];rfl);have P:=hI (show rndE b p up=addE a b p up by unfold addE rndE addR;rw[hp,if_pos rfl,if_pos rfl,if_pos hy]);have C:n=0:=(by rw[←N.o,hy,limbs_zero];rfl);have dn:((n:Int)==0)=true:=(by simp[C]);clear hp hy C;have Q:=hI (Below.refl w.heap.size w)
 go_in
 go_upto_region 1 with(fail);generalize hw9:World.alloc _ _=ww1;obtain⟨j,l,o,R⟩:=gn3 hw9;clear hw9;have S:=Q.o.t j;have r:=l.o.cell;have s:=l.o.frozen;have u:=o.o.cell;have y:=o.o.frozen;go_wp2_with fail;generalize hw9:World.alloc _ _=ww2;obtain⟨g,T⟩:=gn1 hw9;clear hw9;have U:=S.o.t g;have E:=hI ((J.o.belowW j.o).belowW g.o);clear r s u y;refine(fault2_any p (ww1.heap.size) a A n c b B m d ww2 T.o ((I.o.belowW j.o).belowW g.o) L.o E.o z.o).mono ?_;rintro e ww3 ⟨rfl,i⟩;have F:=U.o.t i;rw[O.o];have r:=((l.o.belowW g.o).belowW i.o).cell;have s:=((l.o.belowW g.o).belowW i.o).frozen;have u:=((o.o.belowW g.o).belowW i.o).cell;have y:=((o.o.belowW g.o).belowW i.o).frozen;go_wp2_with fail;refine(rnd_any b B m d p up ww3 (E.o.belowW i.o) z.o (((M.o.belowW j.o).belowW g.o).belowW i.o)).mono ?_;rw[P.o];rintro e ww4 ⟨X,x,G,rfl,V,H⟩;have q:=hI (((R.o.belowW g.o).belowW i.o).belowW H.o);clear r s u y;have W:=q.o.cell;have fr:=q.o.frozen;go_wp2;refine bodyPost_ret (v:= .tuple #[.agg #[.b (addE a b p up).1.neg,.l X x G,.i (addE a b p up).1.e],.i (addE a b p up).2]) (by simp[results,Tryz.results235,go_sem,W]) rfl ?_;exact⟨X,x,G,rfl,hI (store3_sl V.o q.o noU3 _ _ _),hI (store3_below (F.o.trans (H.o.mono F.o.size)) q.o _ _ _ (by omega))⟩
theorem add_null2(a b:D)(A B:Option Addr)(n c m d:Nat)(p:Int)(up:Bool)(w:World)(ha:Sl w A n c (limbs a.k))(hb:Sl w B m d (limbs b.k))(va:vld a)(vb:vld b)(hT:RB w)(hp:precB p=true)(hy:a.k≠0)(hz:b.k=0):
 Calls Tryz.prog 235 #[.agg #[.b a.neg,.l A n c,.i a.e],.agg #[.b b.neg,.l B m d,.i b.e],.i p,.b up] w (DyE (addE a b p up) w):=by
 have I:=hI ha;have J:=hI hb;have z:=hI va;have L:=hI vb;have M:=hI hT;have hn:n≤256:=(by rw[←ha.len];exact vld_len va);have hm:m≤256:=(by rw[←hb.len];exact vld_len vb);have N:=hI ha.len;have O:=hI hb.len;clear ha hb va vb hT;have P:=hI (show errP p=0 by unfold errP;rw[hp];rfl);have Q:=hI (show rndE a p up=addE a b p up by unfold addE rndE addR;rw[hp,if_pos rfl,if_pos rfl,if_neg hy,if_pos hz]);have R:n≠0:=(by rw[←N.o];intro h;exact hy (limbs_eq_nil.1 (List.eq_nil_of_length_eq_zero h)));have dn:((n:Int)==0)=false:=(by rw[beq_eq_false_iff_ne];omega);have C:m=0:=(by rw[←O.o,hz,limbs_zero];rfl);have dm:((m:Int)==0)=true:=(by simp[C]);clear hp hy R hz C;have S:=hI (Below.refl w.heap.size w)
 go_in
 go_upto_region 1 with(fail);generalize hw9:World.alloc _ _=ww1;obtain⟨j,l,o,T⟩:=gn3 hw9;clear hw9;have U:=S.o.t j;have r:=l.o.cell;have s:=l.o.frozen;have u:=o.o.cell;have y:=o.o.frozen;go_wp2_with fail;generalize hw9:World.alloc _ _=ww2;obtain⟨g,V⟩:=gn1 hw9;clear hw9;have W:=U.o.t g;have E:=hI ((I.o.belowW j.o).belowW g.o);clear r s u y;refine(fault2_any p (ww1.heap.size) a A n c b B m d ww2 V.o E.o z.o ((J.o.belowW j.o).belowW g.o) L.o).mono ?_;rintro e ww3 ⟨rfl,i⟩;have F:=W.o.t i;rw[P.o];have r:=((l.o.belowW g.o).belowW i.o).cell;have s:=((l.o.belowW g.o).belowW i.o).frozen;have u:=((o.o.belowW g.o).belowW i.o).cell;have y:=((o.o.belowW g.o).belowW i.o).frozen;go_wp2_with fail;refine(rnd_any a A n c p up ww3 (E.o.belowW i.o) z.o (((M.o.belowW j.o).belowW g.o).belowW i.o)).mono ?_;rw[Q.o];rintro e ww4 ⟨X,x,G,rfl,Y,H⟩;have q:=hI (((T.o.belowW g.o).belowW i.o).belowW H.o);clear r s u y;have Z:=q.o.cell;have fr:=q.o.frozen;go_wp2;refine bodyPost_ret (v:= .tuple #[.agg #[.b (addE a b p up).1.neg,.l X x G,.i (addE a b p up).1.e],.i (addE a b p up).2]) (by simp[results,Tryz.results235,go_sem,Z]) rfl ?_;exact⟨X,x,G,rfl,hI (store3_sl Y.o q.o noU3 _ _ _),hI (store3_below (F.o.trans (H.o.mono F.o.size)) q.o _ _ _ (by omega))⟩
theorem add_pos(a b:D)(A B:Option Addr)(n c m d:Nat)(p:Int)(up:Bool)(w:World)(ha:Sl w A n c (limbs a.k))(hb:Sl w B m d (limbs b.k))(va:vld a)(vb:vld b)(hT:RB w)(hp:precB p=true)(hy:a.k≠0)(hz:b.k≠0):
    Calls Tryz.prog 235 #[.agg #[.b a.neg,.l A n c,.i a.e],.agg #[.b b.neg,.l B m d,.i b.e],.i p,.b up] w (DyE (addE a b p up) w):=by
  have HA:=hI ha;have HB:=hI hb;have VA:=hI va;have VB:=hI vb;have HT:=hI hT;have hn:n≤256:=(by rw[←ha.len];exact vld_len va);have hm:m≤256:=(by rw[←hb.len];exact vld_len vb);have dl:=hI ha.len;have dp:=hI hb.len;clear ha hb va vb hT;have HE:=hI (show errP p=0 by unfold errP;rw[hp];rfl);have dr:n≠0:=(by rw[←dl.o];intro h;exact hy (limbs_eq_nil.1 (List.eq_nil_of_length_eq_zero h)));have dn:((n:Int)==0)=false:=(by rw[beq_eq_false_iff_ne];omega);have I:m≠0:=(by rw[←dp.o];intro h;exact hz (limbs_eq_nil.1 (List.eq_nil_of_length_eq_zero h)));have dm:((m:Int)==0)=false:=(by rw[beq_eq_false_iff_ne];omega);have HY:=hI hy;have HZ:=hI hz;have ey:=precB_iff.1 hp
  obtain⟨P,rfl⟩:∃P:Nat,p=P:=⟨p.toNat,by omega⟩
  have h8:8≤P:=(by omega);have aw:P≤512:=(by omega);have HF:=hI (show addE a b P up=(if topD a<topD b then addR2 b a P up else addR2 a b P up)by unfold addE addR;rw[hp,if_pos rfl,if_neg hy,if_neg hz,Int.toNat_natCast]);obtain⟨E,hE⟩:=eX (addE a b P up);rw[←hE]at HF ⊢;obtain⟨ta,b8⟩:=eX ((blen a.k:Int)+a.e);obtain⟨tb,ca⟩:=eX ((blen b.k:Int)+b.e);have ae:=hI b8.symm;have af:=hI ca.symm;clear hp hy hz I dr hE b8 ca;have ds:=hI (Below.refl w.heap.size w)
  go_in
  go_upto_region 1 with(fail);generalize g:World.alloc _ _=ww1;obtain⟨ax,cb,cc,dt⟩:=gn3 g;clear g;have du:=ds.o.t ax;have dv:=HA.o.b9 ax;have dw:=HB.o.b9 ax;have dx:=HT.o.b9 ax;obtain⟨i,o,j,q,l,r⟩:=cb.o.all3;obtain⟨J,W,L,Y,N,Z⟩:=cc.o.all3;go_wp2_with fail;generalize g:World.alloc _ _=ww2;obtain⟨O,cd⟩:=gn1 g;clear g;have dy:=du.o.t O;have ce:=dv.o.b9 O;have cf:=dw.o.b9 O;have dz:=dx.o.b9 O;have d0:=cb.o.b9 O;have d1:=cc.o.b9 O;have d2:=dt.o.b9 O;clear i o j q l r J W L Y N Z;refine(fault2_any P (ww1.heap.size) a A n c b B m d ww2 cd.o ce.o VA.o cf.o VB.o).mono ?_;rintro e ww3 ⟨rfl,F⟩;have d3:=dy.o.t F;have cg:=ce.o.b9 F;have ch:=cf.o.b9 F;have d4:=dz.o.b9 F;have bh:=d0.o.b9 F;have bi:=d1.o.b9 F;have d5:=d2.o.b9 F;have ez:=cd.o.b9 F;rw[HE.o];obtain⟨i,o,j,q,l,r⟩:=bh.o.all3;obtain⟨J,W,L,Y,N,Z⟩:=bi.o.all3;go_wp2
  go_region_held3 (fun w'=>w'.cell? ⟨w.heap.size,0,none⟩=some (.b a.neg)∧w'.cell? ⟨w.heap.size,1,none⟩=some (.l A n c)∧w'.cell? ⟨w.heap.size,2,none⟩=some (.i a.e)∧w'.cell? ⟨w.heap.size+1,0,none⟩=some (.b b.neg)∧w'.cell? ⟨w.heap.size+1,1,none⟩=some (.l B m d)∧w'.cell? ⟨w.heap.size+1,2,none⟩=some (.i b.e)) (first | exact⟨i,j,l,J,L,N⟩ | exact⟨ci,cj,ck,cl,cm,cn⟩ | exact⟨co,cp,cq,cr,cs,ct⟩) (first
    | (go_at_call_of 167 (Value.agg #[.bool a.neg,.slice A n c,.int .i64 a.e])
       refine(top_any a A n c _ (cg.o.drewN 1) VA.o HY.o).mono ?_;rw[ae.o];rintro e x5 ⟨rfl,s⟩;have H5:=hI (show Below ww3.heap.size ww3 x5 from⟨s.o.os,s.o.tape,s.o.output,s.o.size,s.o.block⟩);have ag:=bh.o.b9 H5;have ah:=bi.o.b9 H5;have B5:=ch.o.b9 H5;have ci:x5.cell? ⟨w.heap.size,0,none⟩=some (.b a.neg):=ag.o.cell 0;have cj:x5.cell? ⟨w.heap.size,1,none⟩=some (.l A n c):=ag.o.cell 1;have ck:x5.cell? ⟨w.heap.size,2,none⟩=some (.i a.e):=ag.o.cell 2;have cl:x5.cell? ⟨w.heap.size+1,0,none⟩=some (.b b.neg):=ah.o.cell 0;have cm:x5.cell? ⟨w.heap.size+1,1,none⟩=some (.l B m d):=ah.o.cell 1
       have cn:x5.cell? ⟨w.heap.size+1,2,none⟩=some (.i b.e):=ah.o.cell 2)
    | (go_at_call_of 167 (Value.agg #[.bool b.neg,.slice B m d,.int .i64 b.e])
       refine(top_any b B m d _ B5.o VB.o HZ.o).mono ?_;rw[af.o];rintro e x6 ⟨rfl,bj⟩;have Q:=H5.o.t bj;have az:=ag.o.b9 bj;have a0:=ah.o.b9 bj;have co:x6.cell? ⟨w.heap.size,0,none⟩=some (.b a.neg):=az.o.cell 0;have cp:x6.cell? ⟨w.heap.size,1,none⟩=some (.l A n c):=az.o.cell 1;have cq:x6.cell? ⟨w.heap.size,2,none⟩=some (.i a.e):=az.o.cell 2;have cr:x6.cell? ⟨w.heap.size+1,0,none⟩=some (.b b.neg):=a0.o.cell 0;have cs:x6.cell? ⟨w.heap.size+1,1,none⟩=some (.l B m d):=a0.o.cell 1
       have ct:x6.cell? ⟨w.heap.size+1,2,none⟩=some (.i b.e):=a0.o.cell 2))
  clear ci cj ck cl cm cn co cp cq cr cs ct ag ah B5 az a0;have cv:=d3.o.t Q;have cw:=cg.o.b9 Q;have cx:=ch.o.b9 Q;have e0:=d4.o.b9 Q;have aa:=bh.o.b9 Q;have bk:=bi.o.b9 Q;have cy:=d5.o.b9 Q;clear i o j q l r J W L Y N Z
  go_upto_if 48 with(fail)
  go_cut [] (fun wx=>∃(x y:D) (XA YA:Option Addr) (x1 x2 y1 y2:Nat),Hid (Blk wx (w.heap.size) 75 #[.b x.neg,.l XA x1 x2,.i x.e])∧Hid (Blk wx (w.heap.size+1) 75 #[.b y.neg,.l YA y1 y2,.i y.e])∧Hid (Sl wx XA x1 x2 (limbs x.k))∧Hid (Sl wx YA y1 y2 (limbs y.k))∧Hid (vld x∧vld y∧x.k≠0∧y.k≠0∧topD y≤topD x∧addR2 x y P up=E∧x1≤256∧y1≤256)∧Hid (Blk wx (w.heap.size+1+1) 75 #[.b false,.sn,.i 0])∧Hid (Below w.heap.size w wx))
  case first=>
    obtain⟨i,o,j,q,l,r⟩:=aa.o.all3;obtain⟨J,W,L,Y,N,Z⟩:=bk.o.all3
    by_cases hlt:ta<tb
    · have bl:decide (ta<tb)=true:=decide_eq_true hlt
      have HG:=hI (show vld b∧vld a∧b.k≠0∧a.k≠0∧topD a≤topD b∧addR2 b a P up=E∧m≤256∧n≤256 from⟨VB.o,VA.o,HZ.o,HY.o,by unfold topD;rw[ae.o,af.o];omega,by rw[HF.o,if_pos (by unfold topD;rw[ae.o,af.o];exact hlt)],hm,hn⟩);clear hlt;rw[bl];go_wp2;rw[store3_put aa.o];have K1:=hI (show Blk (putB x6 (w.heap.size) 75 #[.b b.neg,.l B m d,.i b.e]) (w.heap.size) 75 #[.b b.neg,.l B m d,.i b.e]from aa.o.put _);have K2:=hI (show Blk (putB x6 (w.heap.size) 75 #[.b b.neg,.l B m d,.i b.e]) (w.heap.size+1) 75 #[.b b.neg,.l B m d,.i b.e]from bk.o.far (by omega) _);rw[store3_put K2.o];have K3:=hI (show Blk (putB (putB x6 (w.heap.size) 75 #[.b b.neg,.l B m d,.i b.e]) (w.heap.size+1) 75 #[.b a.neg,.l A n c,.i a.e]) (w.heap.size+1) 75 #[.b a.neg,.l A n c,.i a.e]from K2.o.put _);have K4:=hI (show Blk (putB (putB x6 (w.heap.size) 75 #[.b b.neg,.l B m d,.i b.e]) (w.heap.size+1) 75 #[.b a.neg,.l A n c,.i a.e]) (w.heap.size) 75 #[.b b.neg,.l B m d,.i b.e]from K1.o.far (by omega) _);have R1:=hI (show Blk (putB (putB x6 (w.heap.size) 75 #[.b b.neg,.l B m d,.i b.e]) (w.heap.size+1) 75 #[.b a.neg,.l A n c,.i a.e]) (w.heap.size+1+1) 75 #[.b false,.sn,.i 0]from(show Blk (putB x6 (w.heap.size) 75 #[.b b.neg,.l B m d,.i b.e]) (w.heap.size+1+1) 75 #[.b false,.sn,.i 0]from cy.o.far (by omega) _).far (by omega) _);have S1:=hI ((cw.o.far aa.o noU3 (putB_grown x6 (w.heap.size) 75 #[.b b.neg,.l B m d,.i b.e])).far K2.o noU3 (putB_grown _ (w.heap.size+1) 75 #[.b a.neg,.l A n c,.i a.e]));have S2:=hI ((cx.o.far aa.o noU3 (putB_grown x6 (w.heap.size) 75 #[.b b.neg,.l B m d,.i b.e])).far K2.o noU3 (putB_grown _ (w.heap.size+1) 75 #[.b a.neg,.l A n c,.i a.e]));have L1:=hI ((cv.o.trans (putB_below x6 (w.heap.size) 75 #[.b b.neg,.l B m d,.i b.e] (by omega))).trans (putB_below _ (w.heap.size+1) 75 #[.b a.neg,.l A n c,.i a.e] (by omega)))
      go_meet
      exact⟨b,a,B,A,m,d,n,c,K4,K3,S2,S1,HG,R1,L1⟩
    · have bl:decide (ta<tb)=false:=decide_eq_false hlt
      have HG:=hI (show vld a∧vld b∧a.k≠0∧b.k≠0∧topD b≤topD a∧addR2 a b P up=E∧n≤256∧m≤256 from⟨VA.o,VB.o,HY.o,HZ.o,by unfold topD;rw[ae.o,af.o];omega,by rw[HF.o,if_neg (by unfold topD;rw[ae.o,af.o];exact hlt)],hn,hm⟩);clear hlt;rw[bl];go_wp2
      go_meet
      exact⟨a,b,A,B,n,c,m,d,aa,bk,cw,cx,HG,cy,cv⟩
  case rest=>
    obtain⟨x,y,XA,YA,x1,x2,y1,y2,bm,bn,s,bo,HG,HR,HL⟩:=hcut;obtain⟨wy,g⟩:=eX (wc);rw[←g]at bm bn s bo HR HL ⊢;clear g;have c0:=HT.o.b9 HL;obtain⟨g1,g2,g3,g4,g5,g6,e1,e2⟩:=HG.o;have VX:=hI g1;have VY:=hI g2;have NX:=hI g3;have NY:=hI g4;have ei:=hI g5;have ak:=hI (sum_bd (P:=P) g1 g2 h8 aw g3 g4 g5);have ej:=hI (show addR2 x y P up=E from g6);clear g1 g2 g3 g4 g5 g6 HG;obtain⟨R,a6⟩:=eX (sumR x y P);rw[←a6]at ak;have ek:=hI a6.symm;have a7:=hI (show E=(if R.1=0∧R.2.2.1=false then(⟨false,0,0⟩,0)else sgnR (x.neg !=R.2.2.2) R.1 R.2.1 R.2.2.1 P up)by rw[←ej.o];unfold addR2;simp only;rw[←a6]);obtain⟨sv,G,so,st⟩:=R;simp only at ak a7;clear a6;obtain⟨i,o,j,q,l,r⟩:=bm.o.all3;obtain⟨J,W,L,Y,N,Z⟩:=bn.o.all3;go_wp2_with fail;refine(rsum_any x y XA YA x1 x2 y1 y2 P wy s.o bo.o VX.o VY.o c0.o h8 aw NX.o NY.o ei.o).mono ?_;rw[ek.o];rintro e ww5 ⟨M,S,mc,rfl,HM,T⟩;have el:=HL.o.t T;have em:=bm.o.b9 T;have en:=bn.o.b9 T;have eo:=HR.o.b9 T;have ep:=s.o.b9 T;have eq:=bo.o.b9 T;have er:=c0.o.b9 T;clear i o j q l r J W L Y N Z;simp only at HM;have c3:S≤256:=HM.o.lim (by have:=ak.o.1;omega);have c4: -1000000≤G:=(by have:=ak.o.2.1;omega);have c5:G≤40000:=(by have:=ak.o.2.2;omega);have c6:=hI HM.o.len;go_upto_region 11 with(fail);generalize g:World.alloc _ _=ww6;obtain⟨H,bv⟩:=gn1 g;clear g;have bw:=el.o.t H;have bx:=em.o.b9 H;have c7:=en.o.b9 H;have ba:=eo.o.b9 H;have c8:=ep.o.b9 H;have c9:=eq.o.b9 H;have bb:=er.o.b9 H;have bc:=HM.o.b9 H;obtain⟨da,db,dc,dd,de,df⟩:=bv.o.all3;obtain⟨i,o,j,q,l,r⟩:=bx.o.all3
    by_cases h0:sv=0
    · have I:S=0:=by rw[←c6.o,h0,limbs_zero];rfl
      have es:((S:Int)==0)=true:=by simp[I]
      cases so with
      | false=>
        have HF:=hI (show E=(D0,0)by rw[a7.o,if_pos ⟨h0,rfl⟩];rfl);clear h0 I;obtain⟨am,dg,an,dh,ao,di⟩:=ba.o.all3;go_wp2;refine bodyPost_ret (v:= .tuple #[.agg #[.b false,.sn,.i 0],.i 0]) (by simp[results,Tryz.results235,go_sem,am,an,ao]) rfl ?_;rw[HF.o]
        exact⟨none,0,0,rfl,hI (by show Sl _ none 0 0 (limbs 0);rw[limbs_zero];exact Sl.none_ _),hI (store3_below bw.o ba.o _ _ _ (by omega))⟩
      | true=>
        have bz:=hI (show sgnR (x.neg !=st) sv G true P up=E by rw[a7.o,if_neg (fun h=>absurd h.2 (by decide))]);clear h0 I
        obtain⟨U,V⟩:∃z:Bool,z=(x.neg !=st):=⟨_,rfl⟩
        have et:(!(x.neg==st))=U:=V.symm;have b0:=hI (show sgnR U sv G true P up=E by rw[V];exact bz.o);clear V;go_wp2_with fail;refine(signed_any U M S mc _ G true up P ww6 bc.o bb.o c3 c4 c5 h8 aw).mono ?_;rw[val_limbs,b0.o];rintro e ww7 ⟨X,x',xc,rfl,b1,u⟩;have eu:=bw.o.t u;have e3:=bx.o.b9 u;have e4:=c7.o.b9 u;have b2:=ba.o.b9 u;have e5:=c8.o.b9 u;have e6:=c9.o.b9 u;have e7:=bb.o.b9 u;have e8:=bc.o.b9 u;have e9:=bv.o.b9 u;clear da db dc dd de df i o j q l r;obtain⟨am,dg,an,dh,ao,di⟩:=b2.o.all3;go_wp2;refine bodyPost_ret (v:= .tuple #[.agg #[.b E.1.neg,.l X x' xc,.i E.1.e],.i E.2]) (by simp[results,Tryz.results235,go_sem,am,an,ao]) rfl ?_;exact⟨X,x',xc,rfl,hI (store3_sl b1.o b2.o noU3 _ _ _),hI (store3_below eu.o b2.o _ _ _ (by omega))⟩
    · have I:S≠0:=by rw[←c6.o];intro h;exact h0 (limbs_eq_nil.1 (List.eq_nil_of_length_eq_zero h))
      have es:((S:Int)==0)=false:=(by rw[beq_eq_false_iff_ne];omega);have bz:=hI (show sgnR (x.neg !=st) sv G so P up=E by rw[a7.o,if_neg (fun h=>h0 h.1)]);clear h0 I
      obtain⟨U,V⟩:∃z:Bool,z=(x.neg !=st):=⟨_,rfl⟩
      have et:(!(x.neg==st))=U:=V.symm;have b0:=hI (show sgnR U sv G so P up=E by rw[V];exact bz.o);clear V;go_wp2_with fail;refine(signed_any U M S mc _ G so up P ww6 bc.o bb.o c3 c4 c5 h8 aw).mono ?_;rw[val_limbs,b0.o];rintro e ww8 ⟨X,x',xc,rfl,b1,C⟩;have ev:=bw.o.t C;have fa:=bx.o.b9 C;have fb:=c7.o.b9 C;have b3:=ba.o.b9 C;have fc:=c8.o.b9 C;have fd:=c9.o.b9 C;have fe:=bb.o.b9 C;have ff:=bc.o.b9 C;have fg:=bv.o.b9 C;clear da db dc dd de df i o j q l r;obtain⟨am,dg,an,dh,ao,di⟩:=b3.o.all3;go_wp2;refine bodyPost_ret (v:= .tuple #[.agg #[.b E.1.neg,.l X x' xc,.i E.1.e],.i E.2]) (by simp[results,Tryz.results235,go_sem,am,an,ao]) rfl ?_;exact⟨X,x',xc,rfl,hI (store3_sl b1.o b3.o noU3 _ _ _),hI (store3_below ev.o b3.o _ _ _ (by omega))⟩
theorem radd_any(a b:D)(A B:Option Addr)(n c m d:Nat)(p:Int)(up:Bool)(w:World)(ha:Sl w A n c (limbs a.k))(hb:Sl w B m d (limbs b.k))(va:vld a)(vb:vld b)(hT:RB w):
 Calls Tryz.prog 235 #[.agg #[.b a.neg,.l A n c,.i a.e],.agg #[.b b.neg,.l B m d,.i b.e],.i p,.b up] w (DyE (addE a b p up) w):=by
 cases hp:precB p with
 | false=>exact add_range a b A B n c m d p up w ha hb va vb hT hp
 | true=>
  by_cases hy:a.k=0
  ·
   exact add_null1 a b A B n c m d p up w ha hb va vb hT hp hy
  by_cases hz:b.k=0
  ·
   exact add_null2 a b A B n c m d p up w ha hb va vb hT hp hy hz
  exact add_pos a b A B n c m d p up w ha hb va vb hT hp hy hz
theorem AddDown_any(a b:D)(A B:Option Addr)(n c m d:Nat)(p:Int)(w:World)(ha:Sl w A n c (limbs a.k))(hb:Sl w B m d (limbs b.k))(va:vld a)(vb:vld b)(hT:RB w):
 Calls Tryz.prog 199 #[.agg #[.b a.neg,.l A n c,.i a.e],.agg #[.b b.neg,.l B m d,.i b.e],.i p] w (DyE (addE a b p false) w):=by
 have s:=hI ha;have u:=hI hb;have y:=hI va;have z:=hI vb;have C:=hI hT;clear ha hb va vb hT;have E:=hI (Below.refl w.heap.size w)
 go_in
 go_upto_region 1 with(fail);generalize hw9:World.alloc _ _=ww1;obtain⟨g,j,l,F⟩:=gn3 hw9;clear hw9;have o:=E.o.t g;have G:=j.o.cell;have H:=j.o.frozen;have I:=l.o.cell;have J:=l.o.frozen;go_wp2_with fail;refine(radd_any a b A B n c m d p false ww1 (s.o.belowW g.o) (u.o.belowW g.o) y.o z.o (C.o.belowW g.o)).mono ?_;rintro e ww2 ⟨X,x,q,rfl,L,r⟩;have i:=F.o.b9 r;clear G H I J;have M:=i.o.cell;have N:=i.o.frozen;go_wp2;refine bodyPost_ret (v:= .tuple #[.agg #[.b (addE a b p false).1.neg,.l X x q,.i (addE a b p false).1.e],.i (addE a b p false).2]) (by simp[results,Tryz.results199,go_sem,M]) rfl ?_;exact⟨X,x,q,rfl,hI (store3_sl L.o i.o noU3 _ _ _),hI (store3_below (o.o.trans (r.o.mono o.o.size)) i.o _ _ _ (by omega))⟩
theorem AddUp_any(a b:D)(A B:Option Addr)(n c m d:Nat)(p:Int)(w:World)(ha:Sl w A n c (limbs a.k))(hb:Sl w B m d (limbs b.k))(va:vld a)(vb:vld b)(hT:RB w):
 Calls Tryz.prog 200 #[.agg #[.b a.neg,.l A n c,.i a.e],.agg #[.b b.neg,.l B m d,.i b.e],.i p] w (DyE (addE a b p true) w):=by
 have s:=hI ha;have u:=hI hb;have y:=hI va;have z:=hI vb;have C:=hI hT;clear ha hb va vb hT;have E:=hI (Below.refl w.heap.size w)
 go_in
 go_upto_region 1 with(fail);generalize hw9:World.alloc _ _=ww1;obtain⟨g,j,l,F⟩:=gn3 hw9;clear hw9;have o:=E.o.t g;have G:=j.o.cell;have H:=j.o.frozen;have I:=l.o.cell;have J:=l.o.frozen;go_wp2_with fail;refine(radd_any a b A B n c m d p true ww1 (s.o.belowW g.o) (u.o.belowW g.o) y.o z.o (C.o.belowW g.o)).mono ?_;rintro e ww2 ⟨X,x,q,rfl,L,r⟩;have i:=F.o.b9 r;clear G H I J;have M:=i.o.cell;have N:=i.o.frozen;go_wp2;refine bodyPost_ret (v:= .tuple #[.agg #[.b (addE a b p true).1.neg,.l X x q,.i (addE a b p true).1.e],.i (addE a b p true).2]) (by simp[results,Tryz.results200,go_sem,M]) rfl ?_;exact⟨X,x,q,rfl,hI (store3_sl L.o i.o noU3 _ _ _),hI (store3_below (o.o.trans (r.o.mono o.o.size)) i.o _ _ _ (by omega))⟩
theorem iadd_in(v u:IvN)(p:Int)(w:World)(hv:InI w v)(hu:InI w u)(hT:RB w):
 Calls Tryz.prog 155 #[.agg #[.b v.x.lo.neg,.l v.A v.n v.c,.i v.x.lo.e,.b v.x.hi.neg,.l v.B v.m v.d,.i v.x.hi.e,.b v.x.all],.agg #[.b u.x.lo.neg,.l u.A u.n u.c,.i u.x.lo.e,.b u.x.hi.neg,.l u.B u.m u.d,.i u.x.hi.e,.b u.x.all],.i p] w (IvQ (addI v.x u.x p) w):=by
 have HV:=hI hv;have HU:=hI hu;have HT:=hI hT;obtain⟨W,Z⟩:=eX (addI v.x u.x p);have aa:=hI Z;rw[←Z];clear hv hu hT Z;have ay:=hI (Below.refl w.heap.size w)
 go_in
 go_upto_region 1 with(fail);generalize a:World.alloc _ _=ww1;obtain⟨N,ab,ac,az⟩:=gn3 a;clear a;have a0:=ay.o.t N;have z:=ab.o.cell;have C:=ab.o.frozen;have D:=ac.o.cell;have E:=ac.o.frozen;go_wp2_with fail;generalize a:World.alloc _ _=ww2;obtain⟨F,a1⟩:=gn1 a;clear a;have a2:=a0.o.t F;have ag:=hI ((HV.o.belowW N.o).belowW F.o);have ah:=hI ((HU.o.belowW N.o).belowW F.o);clear z C D E;obtain⟨kb,ai⟩:=eX ((v.x.kn&&u.x.kn));have O:=hI ai.symm;clear ai;refine(known2_in (ww1.heap.size) v u ww2 a1.o ag.o ah.o).mono ?_;rw[O.o];rintro e ww3 ⟨rfl,G⟩;have J:=a2.o.t G;have ad:=ag.o.b9 G;have ae:=ah.o.b9 G;have aj:=hI (((HT.o.belowW N.o).belowW F.o).belowW G.o);have P:=hI ((ab.o.belowW F.o).belowW G.o);have Q:=hI ((ac.o.belowW F.o).belowW G.o);have H:=hI ((az.o.belowW F.o).belowW G.o);have z:=P.o.cell;have C:=P.o.frozen;have D:=Q.o.cell;have E:=Q.o.frozen
 cases kb with
 | false=>
  have L:=hI (show whI=W by rw[aa.o];unfold addI;rw[O.o];rfl);have b:=H.o.cell;have g:=H.o.frozen;go_wp2_with fail;refine(whole_any ww3).mono ?_;rintro e ww4 ⟨rfl,ak⟩;have R:=H.o.b9 ak;clear z C D E b g;have b:=R.o.cell;have g:=R.o.frozen;go_wp2;rw[store7_put R.o];obtain⟨r,s,i⟩:=putI (v:=wh9) (wh9_in _) R.o noU7 (J.o.trans (ak.o.mono J.o.size)) (by omega);obtain⟨w9,a⟩:=eX (putB ww4 (w.heap.size+1+1) 77 #[.b false,.sn,.i 0,.b false,.sn,.i 0,.b true]);rw[show(wh9:IvN).cells=#[.b false,.sn,.i 0,.b false,.sn,.i 0,.b true]from rfl,←a]at r s i;rw[←a];clear a;clear b g;have b:=i.o.cell;have g:=i.o.frozen;refine bodyPost_ret (v:= .agg #[.b false,.sn,.i 0,.b false,.sn,.i 0,.b true]) (by simp[results,Tryz.results155,go_sem,b]) rfl ?_
  exact⟨wh9,rfl,L,r,s⟩
 | true=>
  obtain⟨kp,al⟩:=eX (precB p);have af:=hI al.symm;clear al;go_wp2_with fail;refine(permitted_any p ww3).mono ?_;rw[af.o];rintro e w9 ⟨rfl,rfl⟩
  cases kp with
  | false=>
   have L:=hI (show whI=W by rw[aa.o];unfold addI;rw[O.o,af.o];rfl);have b:=H.o.cell;have g:=H.o.frozen;go_wp2_with fail;refine(whole_any ww3).mono ?_;rintro e ww5 ⟨rfl,am⟩;have S:=H.o.b9 am;clear z C D E b g;have b:=S.o.cell;have g:=S.o.frozen;go_wp2;rw[store7_put S.o];obtain⟨r,s,i⟩:=putI (v:=wh9) (wh9_in _) S.o noU7 (J.o.trans (am.o.mono J.o.size)) (by omega);obtain⟨w9,a⟩:=eX (putB ww5 (w.heap.size+1+1) 77 #[.b false,.sn,.i 0,.b false,.sn,.i 0,.b true]);rw[show(wh9:IvN).cells=#[.b false,.sn,.i 0,.b false,.sn,.i 0,.b true]from rfl,←a]at r s i;rw[←a];clear a;clear b g;have b:=i.o.cell;have g:=i.o.frozen;refine bodyPost_ret (v:= .agg #[.b false,.sn,.i 0,.b false,.sn,.i 0,.b true]) (by simp[results,Tryz.results155,go_sem,b]) rfl ?_
   exact⟨wh9,rfl,L,r,s⟩
  | true=>
   obtain⟨x,T⟩:=eX (addE v.x.lo u.x.lo p false);obtain⟨y,U⟩:=eX (addE v.x.hi u.x.hi p true);have L:=hI (show mdI x y=W by rw[aa.o];unfold addI;rw[O.o,af.o,T,U];rfl);have VX:=hI (show vld x.1 by rw[T];exact addE_vld _ _ _ _);have VY:=hI (show vld y.1 by rw[U];exact addE_vld _ _ _ _);have a7:=hI T.symm;have a8:=hI U.symm;clear T U;go_wp2_with fail;refine(AddDown_any v.x.lo u.x.lo v.A u.A v.n v.c u.n u.c p ww3 ad.o.l ae.o.l ad.o.o.l ae.o.o.l aj.o).mono ?_;rw[a7.o];rintro e ww6 ⟨X,x1,x2,rfl,bb,k⟩;have bc:=J.o.t k;clear z C D E;go_upto_region 4 with(fail);generalize a:World.alloc _ _=ww7;obtain⟨j,an⟩:=gn1 a;clear a;have bd:=bc.o.t j;have ao:=hI ((ad.o.belowW k.o).belowW j.o);have ap:=hI ((ae.o.belowW k.o).belowW j.o);have z:=((P.o.belowW k.o).belowW j.o).cell;have C:=((P.o.belowW k.o).belowW j.o).frozen;have D:=((Q.o.belowW k.o).belowW j.o).cell;have E:=((Q.o.belowW k.o).belowW j.o).frozen;go_wp2_with fail;refine(AddUp_any v.x.hi u.x.hi v.B u.B v.m v.d u.m u.d p ww7 ao.o.h ap.o.h ao.o.o.h ap.o.o.h ((aj.o.belowW k.o).belowW j.o)).mono ?_;rw[a8.o];rintro e ww8 ⟨Y,y1,y2,rfl,bg,M⟩;have bh:=bd.o.t M;clear z C D E;go_upto_region 5 with(fail);generalize a:World.alloc _ _=ww9;obtain⟨I,aq⟩:=gn1 a;clear a;have ar:=bh.o.t I;have bi:=((an.o.belowW M.o).belowW I.o).cell;have bj:=((an.o.belowW M.o).belowW I.o).frozen;have bk:=aq.o.cell;have bl:=aq.o.frozen;go_wp2_with fail;refine(made_in x y X Y x1 x2 y1 y2 ww9 (((bb.o.belowW j.o).belowW M.o).belowW I.o) (bg.o.belowW I.o) VX.o VY.o).mono ?_;rw[L.o];rintro e ww10 ⟨q,rfl,HQ,bn,au⟩;have V:=hI (((((H.o.belowW k.o).belowW j.o).belowW M.o).belowW I.o).belowW au.o);clear bi bj bk bl;have b:=V.o.cell;have g:=V.o.frozen;go_wp2;rw[store7_put V.o];obtain⟨r,s,i⟩:=putI (v:=q) bn.o V.o noU7 (ar.o.trans (au.o.mono ar.o.size)) (by omega);obtain⟨w9,a⟩:=eX (putB ww10 (w.heap.size+1+1) 77 #[.b q.x.lo.neg,.l q.A q.n q.c,.i q.x.lo.e,.b q.x.hi.neg,.l q.B q.m q.d,.i q.x.hi.e,.b q.x.all]);rw[show(q:IvN).cells=#[.b q.x.lo.neg,.l q.A q.n q.c,.i q.x.lo.e,.b q.x.hi.neg,.l q.B q.m q.d,.i q.x.hi.e,.b q.x.all]from rfl,←a]at r s i;rw[←a];clear a;clear b g;have b:=i.o.cell;have g:=i.o.frozen;refine bodyPost_ret (v:= .agg #[.b q.x.lo.neg,.l q.A q.n q.c,.i q.x.lo.e,.b q.x.hi.neg,.l q.B q.m q.d,.i q.x.hi.e,.b q.x.all]) (by simp[results,Tryz.results155,go_sem,b]) rfl ?_;exact⟨q,rfl,HQ,r,s⟩
