import Derived.Test.YtgcjmhjjpbcfmaaGreatDoorRa
set_option maxHeartbeats 4000000
set_option maxRecDepth 100000
namespace Go.Proofs.YtgcjmhjjpbcfmaaGreatDoor
open Go.RowKit Go.Fl Go.Fl.Nm Go.Fl.Dy Go.Fl.Lb
theorem blen_add9{a b n:Nat}(ha:blen a≤n)(hb:blen b≤n):blen (a+b)≤n+1:=by
 refine blen_le ?_;have:=blen_lt ha;have:=blen_lt hb;rw[Nat.pow_succ]
 omega
def SuP(s:Nat×Int×Bool×Bool)(w:World)(e:Ending)(w':World):Prop:=
  ∃(M:Option Addr) (mn mc:Nat),e= .returned (.tuple #[.agg #[.l M mn mc,.i s.2.1,.b s.2.2.1],.b s.2.2.2])∧Hid (Sl w' M mn mc (limbs s.1))∧Hid (Below w.heap.size w w')
theorem rsum_any(a b:D)(A B:Option Addr)(n c m d:Nat)(P:Nat)(w:World)(ha:Sl w A n c (limbs a.k))(hb:Sl w B m d (limbs b.k))(va:vld a)(vb:vld b)(hT:RB w)(h8:8≤P)(h512:P≤512)(hy:a.k≠0)(hz:b.k≠0)(ht:topD b≤topD a):
    Calls Tryz.prog 279 #[.agg #[.b a.neg,.l A n c,.i a.e],.agg #[.b b.neg,.l B m d,.i b.e],.i (P:Nat)] w (SuP (sumR a b P) w):=by
  have HA:=hI ha;have HB:=hI hb;have VA:=hI va;have VB:=hI vb;have HT:=hI hT;have hn:n≤256:=(by rw[←ha.len];exact vld_len va);have hm:m≤256:=(by rw[←hb.len];exact vld_len vb);have fd:=vld_ebd va;have fe:=vld_ebd vb;have ff:=vld_bits va;have fg:=vld_bits vb;have HY:=hI hy;have HZ:=hI hz;obtain⟨r,bt⟩:=eX ((blen a.k:Int)+a.e);obtain⟨tb,bu⟩:=eX ((blen b.k:Int)+b.e);have aw:=hI bt.symm;have ax:=hI bu.symm;have fh: -20000≤r∧r≤40000:=(by omega);have fi: -20000≤tb∧tb≤40000:=(by omega);have fj:tb≤r:=(by rw[bt,bu];exact ht);have s1:IntKind.i64.wrap (r-(P:Int))=r-P:=IntWalk.i64_in _ (by omega);have s2:IntKind.i64.wrap (r-(P:Int)-8)=r-P-8:=IntWalk.i64_in _ (by omega);have s3:IntKind.i64.wrap (r-tb)=r-tb:=IntWalk.i64_in _ (by omega);clear ha hb va vb hT hy hz ht bt bu
  go_in
  go_wp2_with fail;obtain⟨u,l⟩:=eX ((((w.alloc (.cells #[.b a.neg,.l A n c,.i a.e] 75)).alloc (.cells #[.b b.neg,.l B m d,.i b.e] 75)).alloc (.cells #[.sn,.i 0,.b false] 206)));have a8:=hI (show Below w.heap.size w u by rw[l];exact below_a3 _ _ _ _);have co:=HA.o.b9 a8;have d4:=HB.o.b9 a8;have d5:=HT.o.b9 a8;have bv:=hI (show Blk u (w.heap.size) 75 #[.b a.neg,.l A n c,.i a.e]by rw[l];exact((Blk.new _ _ _).alloc _).alloc _);have al:=hI (show Blk u (w.heap.size+1) 75 #[.b b.neg,.l B m d,.i b.e]by rw[l];exact(Blk.new1 _ _ _ _).alloc _);have d6:=hI (show Blk u (w.heap.size+1+1) 206 #[.sn,.i 0,.b false]by rw[l];exact Blk.new2 _ _ _ _ _);rw[←l];clear l;obtain⟨C,O,E,Q,F,R⟩:=bv.o.al3;have H:(u).cell? ⟨w.heap.size+1,0,none⟩=some (.b b.neg):=al.o.cell 0;have S:(u).frozen? ⟨w.heap.size+1,0,none⟩=false:=al.o.frozen 0;have I:(u).cell? ⟨w.heap.size+1,1,none⟩=some (.l B m d):=al.o.cell 1;have T:(u).frozen? ⟨w.heap.size+1,1,none⟩=false:=al.o.frozen 1;have J:(u).cell? ⟨w.heap.size+1,2,none⟩=some (.i b.e):=al.o.cell 2;have U:(u).frozen? ⟨w.heap.size+1,2,none⟩=false:=al.o.frozen 2
  go_region_held3 (fun w'=>w'.cell? ⟨w.heap.size,0,none⟩=some (.b a.neg)∧w'.cell? ⟨w.heap.size,1,none⟩=some (.l A n c)∧w'.cell? ⟨w.heap.size,2,none⟩=some (.i a.e)) (first | exact⟨C,E,F⟩ | exact⟨u0,u1,u2⟩) (first
    | (go_at_call 167
       refine(top_any a A n c _ (co.o.drewN 1) VA.o HY.o).mono ?_;rw[aw.o];rintro e x4 ⟨rfl,s⟩;have H4:=hI (show Below u.heap.size u x4 from⟨s.o.os,s.o.tape,s.o.output,s.o.size,s.o.block⟩);have a9:=bv.o.b9 H4;have u0:x4.cell? ⟨w.heap.size,0,none⟩=some (.b a.neg):=a9.o.cell 0;have u1:x4.cell? ⟨w.heap.size,1,none⟩=some (.l A n c):=a9.o.cell 1
       have u2:x4.cell? ⟨w.heap.size,2,none⟩=some (.i a.e):=a9.o.cell 2))
  go_wp2;clear u0 u1 u2 a9 C O E Q F R H S I T J U;have cs:=co.o.b9 H4;have ct:=d4.o.b9 H4;have d7:=d5.o.b9 H4;have bw:=bv.o.b9 H4;have aj:=al.o.b9 H4;have d8:=d6.o.b9 H4;have d9:=a8.o.t H4;obtain⟨C,O,E,Q,F,R⟩:=bw.o.al3;have H:(x4).cell? ⟨w.heap.size+1,0,none⟩=some (.b b.neg):=aj.o.cell 0;have S:(x4).frozen? ⟨w.heap.size+1,0,none⟩=false:=aj.o.frozen 0;have I:(x4).cell? ⟨w.heap.size+1,1,none⟩=some (.l B m d):=aj.o.cell 1;have T:(x4).frozen? ⟨w.heap.size+1,1,none⟩=false:=aj.o.frozen 1;have J:(x4).cell? ⟨w.heap.size+1,2,none⟩=some (.i b.e):=aj.o.cell 2;have U:(x4).frozen? ⟨w.heap.size+1,2,none⟩=false:=aj.o.frozen 2
  go_region_held3 (fun w'=>w'.cell? ⟨w.heap.size,0,none⟩=some (.b a.neg)∧w'.cell? ⟨w.heap.size,1,none⟩=some (.l A n c)∧w'.cell? ⟨w.heap.size,2,none⟩=some (.i a.e)∧w'.cell? ⟨w.heap.size+1,0,none⟩=some (.b b.neg)∧w'.cell? ⟨w.heap.size+1,1,none⟩=some (.l B m d)∧w'.cell? ⟨w.heap.size+1,2,none⟩=some (.i b.e)) (first | exact⟨C,E,F,H,I,J⟩ | exact⟨cu,cv,cw,cx,cy,cz⟩ | exact⟨c0,c1,c2,c3,c4,c5⟩) (first
    | (go_at_call_of 167 (Value.agg #[.bool a.neg,.slice A n c,.int .i64 a.e])
       refine(top_any a A n c _ (cs.o.drewN 1) VA.o HY.o).mono ?_;rw[aw.o];rintro e x5 ⟨rfl,s⟩;have H5:=hI (show Below x4.heap.size x4 x5 from⟨s.o.os,s.o.tape,s.o.output,s.o.size,s.o.block⟩);have ay:=bw.o.b9 H5;have az:=aj.o.b9 H5;have B5:=ct.o.b9 H5;have cu:x5.cell? ⟨w.heap.size,0,none⟩=some (.b a.neg):=ay.o.cell 0;have cv:x5.cell? ⟨w.heap.size,1,none⟩=some (.l A n c):=ay.o.cell 1;have cw:x5.cell? ⟨w.heap.size,2,none⟩=some (.i a.e):=ay.o.cell 2;have cx:x5.cell? ⟨w.heap.size+1,0,none⟩=some (.b b.neg):=az.o.cell 0;have cy:x5.cell? ⟨w.heap.size+1,1,none⟩=some (.l B m d):=az.o.cell 1
       have cz:x5.cell? ⟨w.heap.size+1,2,none⟩=some (.i b.e):=az.o.cell 2)
    | (go_at_call_of 167 (Value.agg #[.bool b.neg,.slice B m d,.int .i64 b.e])
       refine(top_any b B m d _ B5.o VB.o HZ.o).mono ?_;rw[ax.o];rintro e x6 ⟨rfl,bx⟩;have H6:=H5.o.t bx;have bb:=ay.o.b9 bx;have bc:=az.o.b9 bx;have c0:x6.cell? ⟨w.heap.size,0,none⟩=some (.b a.neg):=bb.o.cell 0;have c1:x6.cell? ⟨w.heap.size,1,none⟩=some (.l A n c):=bb.o.cell 1;have c2:x6.cell? ⟨w.heap.size,2,none⟩=some (.i a.e):=bb.o.cell 2;have c3:x6.cell? ⟨w.heap.size+1,0,none⟩=some (.b b.neg):=bc.o.cell 0;have c4:x6.cell? ⟨w.heap.size+1,1,none⟩=some (.l B m d):=bc.o.cell 1
       have c5:x6.cell? ⟨w.heap.size+1,2,none⟩=some (.i b.e):=bc.o.cell 2))
  clear cu cv cw cx cy cz c0 c1 c2 c3 c4 c5 ay az B5 bb bc C O E Q F R H S I T J U;have c7:=cs.o.b9 H6;have ea:=ct.o.b9 H6;have eb:=d7.o.b9 H6;have c8:=bw.o.b9 H6;have an:=aj.o.b9 H6;have ec:=d8.o.b9 H6;have ed:=d9.o.t H6;obtain⟨C,O,E,Q,F,R⟩:=c8.o.al3;have H:(x6).cell? ⟨w.heap.size+1,0,none⟩=some (.b b.neg):=an.o.cell 0;have S:(x6).frozen? ⟨w.heap.size+1,0,none⟩=false:=an.o.frozen 0;have I:(x6).cell? ⟨w.heap.size+1,1,none⟩=some (.l B m d):=an.o.cell 1;have T:(x6).frozen? ⟨w.heap.size+1,1,none⟩=false:=an.o.frozen 1;have J:(x6).cell? ⟨w.heap.size+1,2,none⟩=some (.i b.e):=an.o.cell 2;have U:(x6).frozen? ⟨w.heap.size+1,2,none⟩=false:=an.o.frozen 2;have a0:=hI (show sumLow a b P=(if r-tb≤2 then min (min a.e (r-P-8)) b.e else min a.e (r-P-8))by unfold sumLow topD;rw[aw.o,ax.o])
  go_upto_if 31 with(fail)
  go_cut [8] (fun s8 wx=>s8= .i (sumLow a b P)∧wx=x6)
  case first=>
    by_cases hd:r-tb≤2
    · have dd:decide (r-tb≤2)=true:=dT
      have b0:=hI (a0.o.trans (if_pos hd));clear hd;rw[dd];go_wp2
      go_meet
      exact⟨by rw[b0.o];try rw[Int.min_assoc],rfl⟩
    · have dd:decide (r-tb≤2)=false:=dF
      have b0:=hI (a0.o.trans (if_neg hd));clear hd;rw[dd];go_wp2
      go_meet
      exact⟨by rw[b0.o],rfl⟩
  case rest=>
    obtain⟨rfl,c9⟩:=hcut;rw[c9];clear c9;obtain⟨L,hL⟩:=eX (sumLow a b P);rw[←hL];have fn:L≤a.e:=(by rw[hL,a0.o];split<;>omega)
    have fo:r-L≤5000:=by
      rw[hL,a0.o];have:=aw.o;have:=ax.o
      split<;>omega
    have da:=hI hL.symm;clear hL a0;have s4:IntKind.i64.wrap (a.e-L)=a.e-L:=IntWalk.i64_in _ (by omega);have s5:IntKind.i64.wrap (b.e-L)=b.e-L:=IntWalk.i64_in _ (by omega);have s6:IntKind.i64.wrap (L-b.e)=L-b.e:=IntWalk.i64_in _ (by omega);obtain⟨g,b1⟩:=eX (2^(a.e-L).toNat*a.k);have bd:=hI (show 2^(a.e-L).toNat*val (limbs a.k)=g by rw[val_limbs,b1]);have a2:=hI (show blen g≤5000 by rw[b1,blen_shl _ HY.o];have:=aw.o;omega);clear b1;go_wp2_with fail;refine(rshl_any A n c _ (a.e-L) x6 c7.o hn (by omega) (by omega) (by rw[bd.o];have:=a2.o;omega)).mono ?_;rw[bd.o];rintro e w4 ⟨X,x,rfl,s,ao⟩;have b2:=c7.o.b9 ao;have a3:=ea.o.b9 ao;have b3:=eb.o.b9 ao;have be:=c8.o.b9 ao;have ae:=an.o.b9 ao;have b4:=ec.o.b9 ao;have ee:=ed.o.t ao;have b5:=hI (s.o);have hx:x≤256:=s.o.lim (by have:=a2.o;omega);clear C O E Q F R H S I T J U;obtain⟨C,O,E,Q,F,R⟩:=be.o.al3;have H:(w4).cell? ⟨w.heap.size+1,0,none⟩=some (.b b.neg):=ae.o.cell 0;have S:(w4).frozen? ⟨w.heap.size+1,0,none⟩=false:=ae.o.frozen 0;have I:(w4).cell? ⟨w.heap.size+1,1,none⟩=some (.l B m d):=ae.o.cell 1;have T:(w4).frozen? ⟨w.heap.size+1,1,none⟩=false:=ae.o.frozen 1;have J:(w4).cell? ⟨w.heap.size+1,2,none⟩=some (.i b.e):=ae.o.cell 2;have U:(w4).frozen? ⟨w.heap.size+1,2,none⟩=false:=ae.o.frozen 2;obtain⟨G,b7⟩:=eX ((sumY b L).1);obtain⟨M,bf⟩:=eX ((sumY b L).2);have bg:=hI b7.symm;have bh:=hI bf.symm
    have bi:=hI (show blen G≤5000 by
      rw[b7];unfold sumY
      by_cases h:L≤b.e
      · rw[if_pos h]
        show blen (2^(b.e-L).toNat*b.k)≤5000
        rw[blen_shl _ HZ.o];have:=ax.o;omega
      · rw[if_neg h]
        show blen (b.k/2^(L-b.e).toNat)≤5000
        have:=blen_div_le b.k (L-b.e).toNat;omega)
    clear b7 bf
    go_upto_if 46 with(fail)
    go_cut [10,11] (fun s10 s11 wx=>∃(Y:Option Addr) (y yc:Nat),s10= .l Y y yc∧s11= .b M∧Hid (Sl wx Y y yc (limbs G))∧Hid (Below w4.heap.size w4 wx))
    case first=>
      by_cases hge:L≤b.e
      · have ef:decide (L≤b.e)=true:=decide_eq_true hge
        have bj:=hI (show 2^(b.e-L).toNat*val (limbs b.k)=G by rw[val_limbs,←bg.o];unfold sumY;rw[if_pos hge]);have bf:M=false:=(by rw[←bh.o];unfold sumY;rw[if_pos hge]);subst bf;go_wp2_with fail;refine(rshl_any B m d _ (b.e-L) w4 a3.o hm (by omega) (by have:=ax.o;omega) (by rw[bj.o];have:=bi.o;omega)).mono ?_;rw[bj.o];rintro e w5 ⟨Y,y,rfl,aq,p⟩;have eg:=b2.o.b9 p;have eh:=a3.o.b9 p;have ei:=b3.o.b9 p;have ej:=be.o.b9 p;have ek:=ae.o.b9 p;have el:=b4.o.b9 p;have em:=b5.o.b9 p;go_wp2
        go_meet
        exact⟨Y,y,y,rfl,rfl,aq,p⟩
      · have ef:decide (L≤b.e)=false:=decide_eq_false hge
        have bj:=hI (show val (limbs b.k)/2^(L-b.e).toNat=G by rw[val_limbs,←bg.o];unfold sumY;rw[if_neg hge]);have en:=hI (show decide (val (limbs b.k)%2^(L-b.e).toNat≠0)=M by rw[val_limbs,←bh.o];unfold sumY;rw[if_neg hge]);go_wp2_with fail;refine(rshr_any B m d _ (L-b.e) w4 a3.o hm (by omega)).mono ?_;rw[bj.o,en.o];rintro e w5 ⟨Y,y,rfl,aq,p⟩;have eg:=b2.o.b9 p;have eh:=a3.o.b9 p;have ei:=b3.o.b9 p;have ej:=be.o.b9 p;have ek:=ae.o.b9 p;have el:=b4.o.b9 p;have em:=b5.o.b9 p;go_wp2
        go_meet
        exact⟨Y,y,y,rfl,rfl,aq,p⟩
    case rest=>
      obtain⟨Y,y,yc,rfl,rfl,aq,HQ⟩:=hcut;clear C O E Q F R H S I T J U;obtain⟨w9,l⟩:=eX (wc);rw[←l]at aq HQ ⊢;clear l;have b8:=b2.o.b9 HQ;have ca:=a3.o.b9 HQ;have cb:=b3.o.b9 HQ;have bk:=be.o.b9 HQ;have ag:=ae.o.b9 HQ;have cc:=b4.o.b9 HQ;have bl:=b5.o.b9 HQ;have db:=ee.o.t HQ;have FY:=aq;have hy:y≤256:=(by rw[←FY.o.len];exact limbs_bits (by have:=bi.o;omega));obtain⟨C,O,E,Q,F,R⟩:=bk.o.al3;have H:(w9).cell? ⟨w.heap.size+1,0,none⟩=some (.b b.neg):=ag.o.cell 0;have S:(w9).frozen? ⟨w.heap.size+1,0,none⟩=false:=ag.o.frozen 0;have I:(w9).cell? ⟨w.heap.size+1,1,none⟩=some (.l B m d):=ag.o.cell 1;have T:(w9).frozen? ⟨w.heap.size+1,1,none⟩=false:=ag.o.frozen 1;have J:(w9).cell? ⟨w.heap.size+1,2,none⟩=some (.i b.e):=ag.o.cell 2;have U:(w9).frozen? ⟨w.heap.size+1,2,none⟩=false:=ag.o.frozen 2
      by_cases hs:a.neg=b.neg
      · have ds:(a.neg==b.neg)=true:=by simp[hs]
        have HF:=hI (show sumR a b P=(g+G,L,M,false)by
          unfold sumR;simp only
          rw[if_pos hs,da.o,bg.o,bh.o,←bd.o,val_limbs])
        clear hs;have N:=hI (show val (limbs g)+val (limbs G)=g+G by rw[val_limbs,val_limbs]);have a4:=hI (show blen (g+G)≤8192 by have:=blen_add9 a2.o bi.o;omega);go_wp2_with fail;clear C O E Q F R H S I T J U;refine(nAdd_sl X Y x x y yc _ _ w9 bl.o FY.o hx hy (by rw[N.o];exact a4.o)).mono ?_;rw[N.o];rintro e ak ⟨Z,z,rfl,au,o⟩;have dc:=b8.o.b9 o;have de:=ca.o.b9 o;have df:=cb.o.b9 o;have dg:=bk.o.b9 o;have dh:=ag.o.b9 o;have W:=cc.o.b9 o;have di:=bl.o.b9 o;have cd:=FY.o.b9 o;have ep:=db.o.t o;have eq:=hI (au.o);have a5:(ak).cell? ⟨w.heap.size+1+1,0,none⟩=some (.sn):=W.o.cell 0;have dj:(ak).frozen? ⟨w.heap.size+1+1,0,none⟩=false:=W.o.frozen 0;have a6:(ak).cell? ⟨w.heap.size+1+1,1,none⟩=some (.i 0):=W.o.cell 1;have dk:(ak).frozen? ⟨w.heap.size+1+1,1,none⟩=false:=W.o.frozen 1;have a7:(ak).cell? ⟨w.heap.size+1+1,2,none⟩=some (.b false):=W.o.cell 2;have dl:(ak).frozen? ⟨w.heap.size+1+1,2,none⟩=false:=W.o.frozen 2;go_wp2;refine bodyPost_ret (v:= .tuple #[.agg #[.l Z z z,.i L,.b M],.b false]) (by simp[results,Tryz.results279,go_sem,a5,a6,a7]) rfl ?_;rw[HF.o];exact⟨Z,z,z,rfl,hI (store3_sl eq.o W.o noUX _ _ _),hI (store3_below ep.o W.o _ _ _ (by omega))⟩
      · have ds:(a.neg==b.neg)=false:=by simp[hs]
        obtain⟨i,bn⟩:=eX (G+(if M then 1 else 0))
        have HF:=hI (show sumR a b P=(if g<i then(i-g,L,false,true)else(g-i,L,M,false))by
          unfold sumR;simp only
          rw[if_neg hs,da.o,bg.o,bh.o,←bd.o,val_limbs,bn])
        have bo:=hI (show blen i≤5001 by rw[bn];have:=blen_succ G;have:=bi.o;cases M<;>simp<;>omega);have dm:=hI bn.symm;clear hs bn
        go_upto_if 79 with(fail)
        go_cut [10] (fun s10 wx=>∃(Z:Option Addr) (z zc:Nat),s10= .l Z z zc∧Hid (Sl wx Z z zc (limbs i))∧Hid (Below w9.heap.size w9 wx))
        case first=>
          cases M with
          | true=>
            have N:=hI (show val (limbs G)+val [1]=i by rw[val_limbs,val_cons,val_nil,Nat.mul_zero,←dm.o];rfl);go_wp2_with fail;obtain⟨ak,l,o,er⟩:=aX w9 157 #[.int .u32 1];rw[←l];clear l;have dc:=b8.o.b9 o;have de:=ca.o.b9 o;have df:=cb.o.b9 o;have dg:=bk.o.b9 o;have dh:=ag.o.b9 o;have W:=cc.o.b9 o;have di:=bl.o.b9 o;have cd:=FY.o.b9 o;have FA:=hI (Sl.one (x:=1) er.o (by unfold BB;omega));refine(nAdd_sl Y (some ⟨w9.heap.size,0,none⟩) y yc 1 1 _ [1] ak cd.o FA.o hy (by omega) (by rw[N.o];have:=bo.o;omega)).mono ?_;rw[N.o];rintro e w11 ⟨Z,z,rfl,au,aa⟩;have fs:=dc.o.b9 aa;have ft:=de.o.b9 aa;have fu:=df.o.b9 aa;have fv:=dg.o.b9 aa;have fw:=dh.o.b9 aa;have fx:=W.o.b9 aa;have fy:=di.o.b9 aa;have fz:=cd.o.b9 aa;have f0:=FA.o.b9 aa;have es:=o.o.t aa;have et:=hI (au.o);go_wp2
            go_meet
            exact⟨Z,z,z,rfl,hI et.o,es⟩
          | false=>
            have eu:G=i:=dm.o;subst eu;go_wp2
            go_meet
            exact⟨Y,y,yc,rfl,hI FY.o,hI (Below.refl _ _)⟩
        case rest=>
          obtain⟨Z,z,zc,rfl,au,ab⟩:=hcut;clear C O E Q F R H S I T J U;obtain⟨bp,l⟩:=eX (wc);rw[←l]at au ab ⊢;clear l;have ev:=b8.o.b9 ab;have ew:=ca.o.b9 ab;have ex:=cb.o.b9 ab;have ey:=bk.o.b9 ab;have ez:=ag.o.b9 ab;have e0:=cc.o.b9 ab;have dp:=bl.o.b9 ab;have e1:=FY.o.b9 ab;have e2:=db.o.t ab;have FZ:=au;have hz:z≤256:=(by rw[←FZ.o.len];exact limbs_bits (by have:=bo.o;omega));go_wp2_with fail;refine(cmp_any X Z x x z zc _ _ bp dp.o FZ.o).mono ?_;rw[val_limbs,val_limbs];rintro e w' ⟨rfl,q9,rfl⟩;obtain⟨cf,l⟩:=eX (bp.drewN q9);have ac:=hI (show Below bp.heap.size bp cf by rw[l];exact below_drewN (Below.refl _ _) _);rw[←l];clear l;have dq:=ev.o.b9 ac;have dr:=ew.o.b9 ac;have dt:=ex.o.b9 ac;have du:=ey.o.b9 ac;have dv:=ez.o.b9 ac;have dw:=e0.o.b9 ac;have bq:=dp.o.b9 ac;have dx:=e1.o.b9 ac;have br:=FZ.o.b9 ac;have dy:=e2.o.t ac
          by_cases hlt:g<i
          · have e4:decide (cmpN g i<0)=true:=decide_eq_true ((cmpN_neg _ _).2 hlt)
            have N:=hI (show val (limbs i)-val (limbs g)=i-g by rw[val_limbs,val_limbs]);have a4:=hI (show blen (i-g)≤8192 by have:=blen_mono (Nat.sub_le i g);have:=a2.o;have:=bo.o;omega);have cg:=hI (show val (limbs g)≤val (limbs i)by rw[val_limbs,val_limbs];omega);have HG:=hI (show sumR a b P=(i-g,L,false,true)by rw[HF.o,if_pos hlt]);clear hlt;go_wp2_with fail;refine(nSub_sl Z X z zc x x _ _ cf br.o bq.o hz hx cg.o (by rw[N.o];exact a4.o)).mono ?_;rw[N.o];rintro e w16 ⟨V,vn,rfl,ci,j⟩;have e5:=dq.o.b9 j;have e6:=dr.o.b9 j;have e7:=dt.o.b9 j;have e8:=du.o.b9 j;have e9:=dv.o.b9 j;have q:=dw.o.b9 j;have fa:=bq.o.b9 j;have fb:=dx.o.b9 j;have fc:=br.o.b9 j;have cj:=dy.o.t j;have ck:=hI (ci.o);have a5:(w16).cell? ⟨w.heap.size+1+1,0,none⟩=some (.sn):=q.o.cell 0;have dj:(w16).frozen? ⟨w.heap.size+1+1,0,none⟩=false:=q.o.frozen 0;have a6:(w16).cell? ⟨w.heap.size+1+1,1,none⟩=some (.i 0):=q.o.cell 1;have dk:(w16).frozen? ⟨w.heap.size+1+1,1,none⟩=false:=q.o.frozen 1;have a7:(w16).cell? ⟨w.heap.size+1+1,2,none⟩=some (.b false):=q.o.cell 2;have dl:(w16).frozen? ⟨w.heap.size+1+1,2,none⟩=false:=q.o.frozen 2;go_wp2;refine bodyPost_ret (v:= .tuple #[.agg #[.l V vn vn,.i L,.b false],.b true]) (by simp[results,Tryz.results279,go_sem,a5,a6,a7]) rfl ?_;rw[HG.o];exact⟨V,vn,vn,rfl,hI (store3_sl ck.o q.o noUX _ _ _),hI (store3_below cj.o q.o _ _ _ (by omega))⟩
          · have e4:decide (cmpN g i<0)=false:=decide_eq_false (fun h=>hlt ((cmpN_neg _ _).1 h))
            have N:=hI (show val (limbs g)-val (limbs i)=g-i by rw[val_limbs,val_limbs]);have a4:=hI (show blen (g-i)≤8192 by have:=blen_mono (Nat.sub_le g i);have:=a2.o;have:=bo.o;omega);have cg:=hI (show val (limbs i)≤val (limbs g)by rw[val_limbs,val_limbs];omega);have HG:=hI (show sumR a b P=(g-i,L,M,false)by rw[HF.o,if_neg hlt]);clear hlt;go_wp2_with fail;refine(nSub_sl X Z x x z zc _ _ cf bq.o br.o hx hz cg.o (by rw[N.o];exact a4.o)).mono ?_;rw[N.o];rintro e w16 ⟨V,vn,rfl,ci,j⟩;have e5:=dq.o.b9 j;have e6:=dr.o.b9 j;have e7:=dt.o.b9 j;have e8:=du.o.b9 j;have e9:=dv.o.b9 j;have q:=dw.o.b9 j;have fa:=bq.o.b9 j;have fb:=dx.o.b9 j;have fc:=br.o.b9 j;have cj:=dy.o.t j;have ck:=hI (ci.o);have a5:(w16).cell? ⟨w.heap.size+1+1,0,none⟩=some (.sn):=q.o.cell 0;have dj:(w16).frozen? ⟨w.heap.size+1+1,0,none⟩=false:=q.o.frozen 0;have a6:(w16).cell? ⟨w.heap.size+1+1,1,none⟩=some (.i 0):=q.o.cell 1;have dk:(w16).frozen? ⟨w.heap.size+1+1,1,none⟩=false:=q.o.frozen 1;have a7:(w16).cell? ⟨w.heap.size+1+1,2,none⟩=some (.b false):=q.o.cell 2;have dl:(w16).frozen? ⟨w.heap.size+1+1,2,none⟩=false:=q.o.frozen 2;go_wp2;refine bodyPost_ret (v:= .tuple #[.agg #[.l V vn vn,.i L,.b M],.b false]) (by simp[results,Tryz.results279,go_sem,a5,a6,a7]) rfl ?_;rw[HG.o];exact⟨V,vn,vn,rfl,hI (store3_sl ck.o q.o noUX _ _ _),hI (store3_below cj.o q.o _ _ _ (by omega))⟩
end Go.Proofs.YtgcjmhjjpbcfmaaGreatDoor
namespace Go.Proofs.YtgcjmhjjpbcfmaaGreatDoor
open Go.RowKit Go.Fl Go.Fl.Nm Go.Lib
