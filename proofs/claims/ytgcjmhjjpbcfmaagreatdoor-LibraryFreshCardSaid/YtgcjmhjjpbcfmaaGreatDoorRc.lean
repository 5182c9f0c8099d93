import Derived.Test.YtgcjmhjjpbcfmaaGreatDoorQG
import Derived.Laws.EntriesVeiled
import Derived.Test.YtgcjmhjjpbcfmaaGreatDoorRb
set_option maxHeartbeats 1000000
namespace Go.Fl.Rt
def opE(an ad bn bd:Int)(r:Int×Int×Int):Int×Int×Int:=if vB an ad&&vB bn bd then r else(0,0,1)
end Go.Fl.Rt
namespace Go.Proofs.YtgcjmhjjpbcfmaaGreatDoor
open Go.RowKit Go.Fl Go.Fl.Nm Go.Fl.Dy Go.Fl.Rt
end Go.Proofs.YtgcjmhjjpbcfmaaGreatDoor
namespace Go.Fl
open Go.RowKit
theorem below_dr(w:World):Below w.heap.size w w.drew:=below_drewN (Below.refl _ _) 1
end Go.Fl
namespace Go.Fl.Dy
open Go.Fl.Nm
theorem cmpM_range(a b:D): -1≤cmpM a b∧cmpM a b≤1:=cmpN_range _ _
theorem sg_range(a:D): -1≤sg a∧sg a≤1:=by unfold sg;split<;>(try split)<;>omega
theorem sg_ne{a:D}(h:sg a≠0):a.k≠0:=fun e=>h (by unfold sg;rw[if_pos e])
theorem mul_small{x z:Int}(hx: -1≤x∧x≤1)(hz: -1≤z∧z≤1): -1≤x*z∧x*z≤1:=by
 have h1:x= -1∨x=0∨x=1:=by omega
 rcases h1 with rfl | rfl | rfl<;>omega
theorem blen_shl_le(m k:Nat):blen (2^k*m)≤k+blen m:=by
 by_cases h:m=0
 ·
  subst h;simp[blen_zero]
 rw[blen_shl k h];omega
end Go.Fl.Dy
namespace Go.Proofs.YtgcjmhjjpbcfmaaGreatDoor
open Go.RowKit Go.Fl Go.Fl.Nm Go.Fl.Dy
theorem dcompare_any(a b:D)(A B:Option Addr)(n c m d:Nat)(w:World)(ha:Sl w A n c (limbs a.k))(hb:Sl w B m d (limbs b.k))(va:vld a)(vb:vld b)(za:a.k≠0)(zb:b.k≠0):
    Calls Tryz.prog 121 #[.agg #[.b a.neg,.l A n c,.i a.e],.agg #[.b b.neg,.l B m d,.i b.e]] w (Ret (.i (cmpM a b)) w):=by
  have HA:=hI ha;have HB:=hI hb;have Y:=hI va;have Z:=hI vb;have ZA:=hI za;have ZB:=hI zb;have ap:=vld_bits va;have aq:=vld_bits vb;have bt:=vld_ebd va;have bu:=vld_ebd vb;have LA:=hI (show n≤256 by rw[←ha.len];exact vld_len va);have LB:=hI (show m≤256 by rw[←hb.len];exact vld_len vb)
  obtain⟨x,hx⟩:∃x,(blen a.k:Int)+a.e=x:=⟨_,rfl⟩
  obtain⟨y,hy⟩:∃y,(blen b.k:Int)+b.e=y:=⟨_,rfl⟩
  have HX:=hI hx;have HY:=hI hy;have ax:=hI (show x<y→cmpM a b= -1 from fun h=>cmpM_lt va vb za zb (by omega));have ay:=hI (show y<x→cmpM a b=1 from fun h=>cmpM_gt va vb za zb (by omega));have x1: -20000≤x∧x≤30000:=(by omega);have y1: -20000≤y∧y≤30000:=(by omega)
  obtain⟨e0,ac⟩:∃e0,min a.e b.e=e0:=⟨_,rfl⟩
  have bx:e0≤a.e∧e0≤b.e:=(by omega);have HT:=hI (show x=y→a.e-e0≤4096∧b.e-e0≤4096 from fun h=>by omega);have a0:=hI ac;clear ha hb va vb za zb hx hy ac ap aq
  go_in
  go_wp2_with fail;obtain⟨g,o⟩:=eX (((w.alloc (.cells #[.b a.neg,.l A n c,.i a.e] 75)).alloc (.cells #[.b b.neg,.l B m d,.i b.e] 75)));have U:=hI (show Below w.heap.size w g by rw[o];exact below_a2 _ _ _);have a1:=HA.o.b9 U;have a2:=HB.o.b9 U;have ad:=hI (show Blk g (w.heap.size) 75 #[.b a.neg,.l A n c,.i a.e]by rw[o];exact(Blk.new _ _ _).alloc _);have i:=hI (show Blk g (w.heap.size+1) 75 #[.b b.neg,.l B m d,.i b.e]by rw[o];exact Blk.new1 _ _ _ _);rw[←o];clear o;obtain⟨bz,b0,b1,b2,b3,b4⟩:=ad.o.al3;have b5:(g).cell? ⟨w.heap.size+1,0,none⟩=some (.b b.neg):=i.o.cell 0;have b6:(g).frozen? ⟨w.heap.size+1,0,none⟩=false:=i.o.frozen 0;have b7:(g).cell? ⟨w.heap.size+1,1,none⟩=some (.l B m d):=i.o.cell 1;have b8:(g).frozen? ⟨w.heap.size+1,1,none⟩=false:=i.o.frozen 1;have ca:(g).cell? ⟨w.heap.size+1,2,none⟩=some (.i b.e):=i.o.cell 2;have cb:(g).frozen? ⟨w.heap.size+1,2,none⟩=false:=i.o.frozen 2;go_wp2;have s:=hI (below_dr g);have ae:=a1.o.b9 s;have a3:=a2.o.b9 s;have F:=ad.o.b9 s;have G:=i.o.b9 s;have cc:g.drew.cell? ⟨w.heap.size,0,none⟩=some (.b a.neg):=F.o.cell 0;have cd:g.drew.cell? ⟨w.heap.size,1,none⟩=some (.l A n c):=F.o.cell 1;have ce:g.drew.cell? ⟨w.heap.size,2,none⟩=some (.i a.e):=F.o.cell 2;have cf:g.drew.cell? ⟨w.heap.size+1,0,none⟩=some (.b b.neg):=G.o.cell 0;have cg:g.drew.cell? ⟨w.heap.size+1,1,none⟩=some (.l B m d):=G.o.cell 1;have ch:g.drew.cell? ⟨w.heap.size+1,2,none⟩=some (.i b.e):=G.o.cell 2
  go_region_held3 (fun w'=>w'.cell? ⟨w.heap.size,0,none⟩=some (.b a.neg)∧w'.cell? ⟨w.heap.size,1,none⟩=some (.l A n c)∧w'.cell? ⟨w.heap.size,2,none⟩=some (.i a.e)∧w'.cell? ⟨w.heap.size+1,0,none⟩=some (.b b.neg)∧w'.cell? ⟨w.heap.size+1,1,none⟩=some (.l B m d)∧w'.cell? ⟨w.heap.size+1,2,none⟩=some (.i b.e)) ((with_reducible refine⟨?_,?_,?_,?_,?_,?_⟩)<;>(with_reducible assumption)) (first
    | (go_at_call_of 167 (Value.agg #[.bool a.neg,.slice A n c,.int .i64 a.e])
       (with_reducible refine(top_any a A n c _ ae.o Y.o ZA.o).mono ?_)
       rw[HX.o];rintro e w3 ⟨rfl,u⟩;have a4:=ae.o.b9 u;have af:=a3.o.b9 u;have H:=F.o.b9 u;have I:=G.o.b9 u;have a5:=s.o.t u;have ci:w3.cell? ⟨w.heap.size,0,none⟩=some (.b a.neg):=H.o.cell 0;have cj:w3.cell? ⟨w.heap.size,1,none⟩=some (.l A n c):=H.o.cell 1;have ck:w3.cell? ⟨w.heap.size,2,none⟩=some (.i a.e):=H.o.cell 2;have cl:w3.cell? ⟨w.heap.size+1,0,none⟩=some (.b b.neg):=I.o.cell 0;have cm:w3.cell? ⟨w.heap.size+1,1,none⟩=some (.l B m d):=I.o.cell 1
       have cn:w3.cell? ⟨w.heap.size+1,2,none⟩=some (.i b.e):=I.o.cell 2)
    | (go_at_call_of 167 (Value.agg #[.bool b.neg,.slice B m d,.int .i64 b.e])
       (with_reducible refine(top_any b B m d _ af.o Z.o ZB.o).mono ?_)
       rw[HY.o];rintro e w4 ⟨rfl,v⟩;have a6:=a4.o.b9 v;have a7:=af.o.b9 v;have J:=H.o.b9 v;have L:=I.o.b9 v;have a8:=a5.o.t v;have co:w4.cell? ⟨w.heap.size,0,none⟩=some (.b a.neg):=J.o.cell 0;have cp:w4.cell? ⟨w.heap.size,1,none⟩=some (.l A n c):=J.o.cell 1;have cq:w4.cell? ⟨w.heap.size,2,none⟩=some (.i a.e):=J.o.cell 2;have cr:w4.cell? ⟨w.heap.size+1,0,none⟩=some (.b b.neg):=L.o.cell 0;have cs:w4.cell? ⟨w.heap.size+1,1,none⟩=some (.l B m d):=L.o.cell 1
       have ct:w4.cell? ⟨w.heap.size+1,2,none⟩=some (.i b.e):=L.o.cell 2))
  have V:=U.o.t a8
  by_cases h1:x<y
  · have d1:decide (x<y)=true:=decide_eq_true h1
    have z:=hI (ax.o h1);clear h1;go_wp2;go_ret;exact⟨ret_int z.o.symm,V⟩
  · have d1:decide (x<y)=false:=decide_eq_false h1
    by_cases h2:y<x
    · have d2:decide (y<x)=true:=decide_eq_true h2
      have z:=hI (ay.o h2);clear h1 h2;go_wp2;go_ret;exact⟨ret_int z.o.symm,V⟩
    · have d2:decide (y<x)=false:=decide_eq_false h2
      have cu:=HT.o (by omega);clear h1 h2;have em:min a.e b.e=e0:=a0.o;have sa:IntKind.i64.wrap (a.e-e0)=a.e-e0:=IntWalk.i64_in _ (by omega);have sb:IntKind.i64.wrap (b.e-e0)=b.e-e0:=IntWalk.i64_in _ (by omega);have ja:0≤a.e-e0:=(by omega);have bd:a.e-e0≤65536:=(by omega);have jb:0≤b.e-e0:=(by omega);have bf:b.e-e0≤65536:=(by omega);have BA:=hI (show blen (2^(a.e-e0).toNat*val (limbs a.k))≤8192 by rw[val_limbs];have:=blen_shl_le a.k (a.e-e0).toNat;have:=vld_bits Y.o;omega);have bh:=hI (show blen (2^(b.e-e0).toNat*val (limbs b.k))≤8192 by rw[val_limbs];have:=blen_shl_le b.k (b.e-e0).toNat;have:=vld_bits Z.o;omega);have z:=hI (show cmpN (2^(a.e-e0).toNat*a.k) (2^(b.e-e0).toNat*b.k)=cmpM a b by unfold cmpM;rw[em]);go_wp2;have C:=hI (below_dr w4);have ag:=a6.o.b9 C;have bi:=a7.o.b9 C;have M:=J.o.b9 C;have N:=L.o.b9 C;have cx:w4.drew.cell? ⟨w.heap.size,0,none⟩=some (.b a.neg):=M.o.cell 0;have cy:w4.drew.cell? ⟨w.heap.size,1,none⟩=some (.l A n c):=M.o.cell 1;have cz:w4.drew.cell? ⟨w.heap.size,2,none⟩=some (.i a.e):=M.o.cell 2;have c0:w4.drew.cell? ⟨w.heap.size+1,0,none⟩=some (.b b.neg):=N.o.cell 0;have c1:w4.drew.cell? ⟨w.heap.size+1,1,none⟩=some (.l B m d):=N.o.cell 1;have c2:w4.drew.cell? ⟨w.heap.size+1,2,none⟩=some (.i b.e):=N.o.cell 2
      go_region_held3 (fun w'=>w'.cell? ⟨w.heap.size,0,none⟩=some (.b a.neg)∧w'.cell? ⟨w.heap.size,1,none⟩=some (.l A n c)∧w'.cell? ⟨w.heap.size,2,none⟩=some (.i a.e)∧w'.cell? ⟨w.heap.size+1,0,none⟩=some (.b b.neg)∧w'.cell? ⟨w.heap.size+1,1,none⟩=some (.l B m d)∧w'.cell? ⟨w.heap.size+1,2,none⟩=some (.i b.e)) ((with_reducible refine⟨?_,?_,?_,?_,?_,?_⟩)<;>(with_reducible assumption)) (first
        | (go_at_call_of 169 (Value.slice A n c)
           (with_reducible refine(shifted_any A n c _ (a.e-e0) _ ag.o LA.o ja bd BA.o).mono ?_)
           rw[val_limbs];rintro e w6 ⟨P,p,rfl,HP,E⟩;have bk:=ag.o.b9 E;have ah:=bi.o.b9 E;have O:=M.o.b9 E;have R:=N.o.b9 E;have bl:=C.o.t E;have bm:=hI (HP.o);have c3:w6.cell? ⟨w.heap.size,0,none⟩=some (.b a.neg):=O.o.cell 0;have c4:w6.cell? ⟨w.heap.size,1,none⟩=some (.l A n c):=O.o.cell 1;have c5:w6.cell? ⟨w.heap.size,2,none⟩=some (.i a.e):=O.o.cell 2;have c6:w6.cell? ⟨w.heap.size+1,0,none⟩=some (.b b.neg):=R.o.cell 0;have c7:w6.cell? ⟨w.heap.size+1,1,none⟩=some (.l B m d):=R.o.cell 1
           have c8:w6.cell? ⟨w.heap.size+1,2,none⟩=some (.i b.e):=R.o.cell 2)
        | (go_at_call_of 169 (Value.slice B m d)
           (with_reducible refine(shifted_any B m d _ (b.e-e0) _ ah.o LB.o jb bf bh.o).mono ?_)
           rw[val_limbs];rintro e w7 ⟨Q,q,rfl,HQ,l⟩;have bo:=bk.o.b9 l;have bp:=ah.o.b9 l;have S:=O.o.b9 l;have T:=R.o.b9 l;have ai:=bm.o.b9 l;have bq:=bl.o.t l;have aj:=hI (HQ.o);have c9:w7.cell? ⟨w.heap.size,0,none⟩=some (.b a.neg):=S.o.cell 0;have da:w7.cell? ⟨w.heap.size,1,none⟩=some (.l A n c):=S.o.cell 1;have db:w7.cell? ⟨w.heap.size,2,none⟩=some (.i a.e):=S.o.cell 2;have dc:w7.cell? ⟨w.heap.size+1,0,none⟩=some (.b b.neg):=T.o.cell 0;have dd:w7.cell? ⟨w.heap.size+1,1,none⟩=some (.l B m d):=T.o.cell 1
           have de:w7.cell? ⟨w.heap.size+1,2,none⟩=some (.i b.e):=T.o.cell 2)
        | (go_at_call 168
           (with_reducible refine(cmp_any P Q p p q q _ _ _ ai.o aj.o).mono ?_)
           rw[val_limbs,val_limbs,z.o];rintro e w8 ⟨rfl,r,hr⟩;have j:=hI (show Below w7.heap.size w7 w8 by rw[hr];exact below_drewN (Below.refl _ _) _);clear hr;have df:=bo.o.b9 j;have dg:=bp.o.b9 j;have W:=S.o.b9 j;have X:=T.o.b9 j;have dh:=ai.o.b9 j;have di:=aj.o.b9 j;have br:=bq.o.t j;have dj:w8.cell? ⟨w.heap.size,0,none⟩=some (.b a.neg):=W.o.cell 0;have dk:w8.cell? ⟨w.heap.size,1,none⟩=some (.l A n c):=W.o.cell 1;have dl:w8.cell? ⟨w.heap.size,2,none⟩=some (.i a.e):=W.o.cell 2;have dm:w8.cell? ⟨w.heap.size+1,0,none⟩=some (.b b.neg):=X.o.cell 0;have dn:w8.cell? ⟨w.heap.size+1,1,none⟩=some (.l B m d):=X.o.cell 1
           have dp:w8.cell? ⟨w.heap.size+1,2,none⟩=some (.i b.e):=X.o.cell 2))
      have bs:=V.o.t br;go_wp2;go_ret;exact⟨rfl,bs⟩
theorem dcmp_any(a b:D)(A B:Option Addr)(n c m d:Nat)(w:World)(ha:Sl w A n c (limbs a.k))(hb:Sl w B m d (limbs b.k))(va:vld a)(vb:vld b):
    Calls Tryz.prog 80 #[.agg #[.b a.neg,.l A n c,.i a.e],.agg #[.b b.neg,.l B m d,.i b.e]] w (Ret (.i (cmpD a b)) w):=by
  have HA:=hI ha;have HB:=hI hb;have VA:=hI va;have VB:=hI vb
  obtain⟨x,L⟩:∃x,sg a=x:=⟨_,rfl⟩
  obtain⟨y,M⟩:∃y,sg b=y:=⟨_,rfl⟩
  have x1: -1≤x∧x≤1:=(by rw[←L];exact sg_range a);have y1: -1≤y∧y≤1:=(by rw[←M];exact sg_range b)
  obtain⟨z,V⟩:∃z,cmpM a b=z:=⟨_,rfl⟩
  have z1: -1≤z∧z≤1:=(by rw[←V];exact cmpM_range a b);have HX:=hI L;have HY:=hI M;have HZ:=hI V;have W:=hI (show cmpD a b=if x<y then -1 else if y<x then 1 else if x=0 then 0 else x*z by unfold cmpD;rw[L,M,V]);have KZ:=hI (show x≠0→a.k≠0 by rw[←L];exact sg_ne);have KW:=hI (show y≠0→b.k≠0 by rw[←M];exact sg_ne);clear ha hb va vb L M V
  go_in
  go_wp2_with fail;obtain⟨g,N⟩:=eX (((w.alloc (.cells #[.b a.neg,.l A n c,.i a.e] 75)).alloc (.cells #[.b b.neg,.l B m d,.i b.e] 75)));have ae:=hI (show Below w.heap.size w g by rw[N];exact below_a2 _ _ _);have af:=HA.o.b9 ae;have az:=HB.o.b9 ae;have ag:=hI (show Blk g (w.heap.size) 75 #[.b a.neg,.l A n c,.i a.e]by rw[N];exact(Blk.new _ _ _).alloc _);have j:=hI (show Blk g (w.heap.size+1) 75 #[.b b.neg,.l B m d,.i b.e]by rw[N];exact Blk.new1 _ _ _ _);rw[←N];clear N;obtain⟨q,r,s,u,v,C⟩:=ag.o.al3;have E:(g).cell? ⟨w.heap.size+1,0,none⟩=some (.b b.neg):=j.o.cell 0;have F:(g).frozen? ⟨w.heap.size+1,0,none⟩=false:=j.o.frozen 0;have G:(g).cell? ⟨w.heap.size+1,1,none⟩=some (.l B m d):=j.o.cell 1;have H:(g).frozen? ⟨w.heap.size+1,1,none⟩=false:=j.o.frozen 1;have I:(g).cell? ⟨w.heap.size+1,2,none⟩=some (.i b.e):=j.o.cell 2;have J:(g).frozen? ⟨w.heap.size+1,2,none⟩=false:=j.o.frozen 2;go_wp2_with fail;refine(valid_yes a A n c g af.o VA.o).mono ?_;rintro e w2 ⟨rfl,O⟩;have a0:=af.o.b9 O;have ah:=az.o.b9 O;have ai:=ag.o.b9 O;have l:=j.o.b9 O;have a1:=ae.o.t O;clear q r s u v C E F G H I J;obtain⟨q,r,s,u,v,C⟩:=ai.o.al3;have E:(w2).cell? ⟨w.heap.size+1,0,none⟩=some (.b b.neg):=l.o.cell 0;have F:(w2).frozen? ⟨w.heap.size+1,0,none⟩=false:=l.o.frozen 0;have G:(w2).cell? ⟨w.heap.size+1,1,none⟩=some (.l B m d):=l.o.cell 1;have H:(w2).frozen? ⟨w.heap.size+1,1,none⟩=false:=l.o.frozen 1;have I:(w2).cell? ⟨w.heap.size+1,2,none⟩=some (.i b.e):=l.o.cell 2;have J:(w2).frozen? ⟨w.heap.size+1,2,none⟩=false:=l.o.frozen 2;go_wp2_with fail;refine(valid_yes b B m d w2 ah.o VB.o).mono ?_;rintro e w3 ⟨rfl,P⟩;have a2:=a0.o.b9 P;have a3:=ah.o.b9 P;have aj:=ai.o.b9 P;have o:=l.o.b9 P;have a4:=a1.o.t P;clear q r s u v C E F G H I J;obtain⟨q,r,s,u,v,C⟩:=aj.o.al3;have E:(w3).cell? ⟨w.heap.size+1,0,none⟩=some (.b b.neg):=o.o.cell 0;have F:(w3).frozen? ⟨w.heap.size+1,0,none⟩=false:=o.o.frozen 0;have G:(w3).cell? ⟨w.heap.size+1,1,none⟩=some (.l B m d):=o.o.cell 1;have H:(w3).frozen? ⟨w.heap.size+1,1,none⟩=false:=o.o.frozen 1;have I:(w3).cell? ⟨w.heap.size+1,2,none⟩=some (.i b.e):=o.o.cell 2;have J:(w3).frozen? ⟨w.heap.size+1,2,none⟩=false:=o.o.frozen 2;go_wp2;have Q:=hI (below_dr w3);have ak:=a2.o.b9 Q;have a5:=a3.o.b9 Q;have X:=aj.o.b9 Q;have Y:=o.o.b9 Q;have bf:w3.drew.cell? ⟨w.heap.size,0,none⟩=some (.b a.neg):=X.o.cell 0;have bg:w3.drew.cell? ⟨w.heap.size,1,none⟩=some (.l A n c):=X.o.cell 1;have bh:w3.drew.cell? ⟨w.heap.size,2,none⟩=some (.i a.e):=X.o.cell 2;have bi:w3.drew.cell? ⟨w.heap.size+1,0,none⟩=some (.b b.neg):=Y.o.cell 0;have bj:w3.drew.cell? ⟨w.heap.size+1,1,none⟩=some (.l B m d):=Y.o.cell 1;have bk:w3.drew.cell? ⟨w.heap.size+1,2,none⟩=some (.i b.e):=Y.o.cell 2
  go_region_held3 (fun w'=>w'.cell? ⟨w.heap.size,0,none⟩=some (.b a.neg)∧w'.cell? ⟨w.heap.size,1,none⟩=some (.l A n c)∧w'.cell? ⟨w.heap.size,2,none⟩=some (.i a.e)∧w'.cell? ⟨w.heap.size+1,0,none⟩=some (.b b.neg)∧w'.cell? ⟨w.heap.size+1,1,none⟩=some (.l B m d)∧w'.cell? ⟨w.heap.size+1,2,none⟩=some (.i b.e)) ((with_reducible refine⟨?_,?_,?_,?_,?_,?_⟩)<;>(with_reducible assumption)) (first
    | (go_at_call_of 120 (Value.agg #[.bool a.neg,.slice A n c,.int .i64 a.e])
       (with_reducible refine(sign_any a A n c _ ak.o VA.o).mono ?_)
       rw[HX.o];rintro e w5 ⟨rfl,R⟩;have a6:=ak.o.b9 R;have al:=a5.o.b9 R;have Z:=X.o.b9 R;have aa:=Y.o.b9 R;have a7:=Q.o.t R;have bl:w5.cell? ⟨w.heap.size,0,none⟩=some (.b a.neg):=Z.o.cell 0;have bm:w5.cell? ⟨w.heap.size,1,none⟩=some (.l A n c):=Z.o.cell 1;have bn:w5.cell? ⟨w.heap.size,2,none⟩=some (.i a.e):=Z.o.cell 2;have bo:w5.cell? ⟨w.heap.size+1,0,none⟩=some (.b b.neg):=aa.o.cell 0;have bp:w5.cell? ⟨w.heap.size+1,1,none⟩=some (.l B m d):=aa.o.cell 1
       have bq:w5.cell? ⟨w.heap.size+1,2,none⟩=some (.i b.e):=aa.o.cell 2)
    | (go_at_call_of 120 (Value.agg #[.bool b.neg,.slice B m d,.int .i64 b.e])
       (with_reducible refine(sign_any b B m d _ al.o VB.o).mono ?_)
       rw[HY.o];rintro e w6 ⟨rfl,S⟩;have am:=a6.o.b9 S;have an:=al.o.b9 S;have T:=Z.o.b9 S;have i:=aa.o.b9 S;have a8:=a7.o.t S;have br:w6.cell? ⟨w.heap.size,0,none⟩=some (.b a.neg):=T.o.cell 0;have bs:w6.cell? ⟨w.heap.size,1,none⟩=some (.l A n c):=T.o.cell 1;have bt:w6.cell? ⟨w.heap.size,2,none⟩=some (.i a.e):=T.o.cell 2;have bu:w6.cell? ⟨w.heap.size+1,0,none⟩=some (.b b.neg):=i.o.cell 0;have bv:w6.cell? ⟨w.heap.size+1,1,none⟩=some (.l B m d):=i.o.cell 1
       have bw:w6.cell? ⟨w.heap.size+1,2,none⟩=some (.i b.e):=i.o.cell 2))
  have ab:=a4.o.t a8;clear q r s u v C E F G H I J;obtain⟨q,r,s,u,v,C⟩:=T.o.al3;have E:(w6).cell? ⟨w.heap.size+1,0,none⟩=some (.b b.neg):=i.o.cell 0;have F:(w6).frozen? ⟨w.heap.size+1,0,none⟩=false:=i.o.frozen 0;have G:(w6).cell? ⟨w.heap.size+1,1,none⟩=some (.l B m d):=i.o.cell 1;have H:(w6).frozen? ⟨w.heap.size+1,1,none⟩=false:=i.o.frozen 1;have I:(w6).cell? ⟨w.heap.size+1,2,none⟩=some (.i b.e):=i.o.cell 2;have J:(w6).frozen? ⟨w.heap.size+1,2,none⟩=false:=i.o.frozen 2
  by_cases h1:x<y
  · have d1:decide (x<y)=true:=decide_eq_true h1
    have p:=hI (show cmpD a b= -1 by rw[W.o,if_pos h1]);clear h1;go_wp2;go_ret;exact⟨ret_int p.o.symm,ab⟩
  · have d1:decide (x<y)=false:=decide_eq_false h1
    by_cases h2:y<x
    · have d2:decide (y<x)=true:=decide_eq_true h2
      have p:=hI (show cmpD a b=1 by rw[W.o,if_neg h1,if_pos h2]);clear h1 h2;go_wp2;go_ret;exact⟨ret_int p.o.symm,ab⟩
    · have d2:decide (y<x)=false:=decide_eq_false h2
      by_cases h3:x=0
      · have p:=hI (show cmpD a b=0 by rw[W.o,if_neg h1,if_neg h2,if_pos h3])
        clear h1 h2;subst h3;go_wp2;go_ret;exact⟨ret_int p.o.symm,ab⟩
      · have d3:(x==0)=false:=by rw[beq_eq_false_iff_ne];exact h3
        have p:=hI (show x*z=cmpD a b by rw[W.o,if_neg h1,if_neg h2,if_neg h3]);have ZA:=hI (KZ.o h3);have ZB:=hI (KW.o (by omega));have sz:IntKind.i64.wrap (x*z)=x*z:=IntWalk.i64_in _ (by have h:=mul_small x1 z1;omega);clear h1 h2 h3;go_wp2_with fail;refine(dcompare_any a b A B n c m d w6 am.o an.o VA.o VB.o ZA.o ZB.o).mono ?_;rw[HZ.o];rintro e w7 ⟨rfl,U⟩;have b0:=am.o.b9 U;have b1:=an.o.b9 U;have b2:=T.o.b9 U;have b3:=i.o.b9 U;have bd:=ab.o.t U;go_wp2;go_ret;exact⟨ret_int p.o,bd⟩
end Go.Proofs.YtgcjmhjjpbcfmaaGreatDoor
namespace Go.Fl.Dy
open Go.Fl.Nm
end Go.Fl.Dy
namespace Go.Proofs.YtgcjmhjjpbcfmaaGreatDoor
open Go.RowKit Go.Fl Go.Fl.Nm Go.Fl.Dy Go.Fl.Rt
