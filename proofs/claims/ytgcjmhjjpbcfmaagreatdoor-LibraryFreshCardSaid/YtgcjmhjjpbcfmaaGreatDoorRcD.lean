import Derived.Test.YtgcjmhjjpbcfmaaGreatDoorRcC
set_option linter.unusedSimpArgs false
set_option maxHeartbeats 16000000
namespace Go.Fl.Dy
open Go.Fl.Nm
theorem and1_64(x k:Nat)(h:x<9223372036854775808):Go.bits .and .u64 ((x:Int)/2^k) 1=((x/2^k%2:Nat):Int):=by
 have e:(x:Int)/2^k=((x/2^k:Nat):Int):=(by rw[Int.natCast_ediv,Int.natCast_pow];rfl);have h2:x/2^k<9223372036854775808:=Nat.lt_of_le_of_lt (Nat.div_le_self _ _) h;have:=(bits_nat .u64 63 (by decide) (fun n h0 h1=>by rw[IntKind.wrap_u64];omega) (x/2^k) 1 h2 (by decide)).1;rw[e];rw[Nat.and_one_is_mod]at this;exact this
theorem long_step{n d i M rest:Nat}(hd:0<d)(hr:rest<d)(h:n/2^(i+1)=M*d+rest):
 (2*rest+n/2^i%2)/d≤1∧n/2^i=(2*M+(2*rest+n/2^i%2)/d)*d+(2*rest+n/2^i%2)%d:=by
 have h1:=half_step n i;rw[h]at h1
 generalize n/2^i=t at *
 have hb:t%2≤1:=by omega
 generalize t%2=b at *
 have h2:=Nat.div_add_mod (2*rest+b) d;refine⟨?_,?_⟩
 ·
  have:(2*rest+b)/d<2:=(Nat.div_lt_iff_lt_mul hd).2 (by omega)
  omega
 rw[h1,Nat.add_mul,Nat.mul_add,Nat.mul_comm ((2*rest+b)/d) d,Nat.mul_assoc]
 omega
theorem ends_bound{n d p M rest t:Nat}(hn:1≤n)(hd:d≤1073741824)(hr:rest<d)(h:n*2^t=M*d+rest)(hb:blen M≤p):t≤p+31:=by
 have h1:=blen_lt hb
 have h2:M*d+rest<2^p*d:=by
  have:(M+1)*d≤2^p*d:=Nat.mul_le_mul_right _ h1;rw[Nat.add_mul]at this
  omega
 have h3:2^t≤n*2^t:=Nat.le_mul_of_pos_left _ hn;have h4:2^p*d≤2^p*2^30:=Nat.mul_le_mul_left _ hd;rw[←Nat.pow_add]at h4;have h5:2^t<2^(p+30):=(by omega);have:=(Nat.pow_lt_pow_iff_right (by decide:1<2)).1 h5
 omega
theorem ends_fin{n d p M rest t b lo:Nat}(hn:1≤n)(hd:1≤d)(hp:8≤p)(hI:n*2^t=M*d+rest)(hr:rest<d)(hb:blen M=b)(hlo:b=lo+p):
 M/2^lo=encT n d p∧(lo:Int)-t=encU n d p∧decide (rest=0∧M%2^lo=0)=encX n d p:=by
 have hM:n*2^t/d=M:=(by rw[hI,Nat.mul_comm,Nat.mul_add_div hd,Nat.div_eq_of_lt hr,Nat.add_zero]);have hR:n*2^t%d=rest:=(by rw[hI,Nat.mul_comm,Nat.mul_add_mod,Nat.mod_eq_of_lt hr]);have hF:=Fl.of_div (n:=n) hd t lo;have hX:=Ex.of_div (n:=n) hd t lo;rw[hM]at hF hX;rw[hR]at hX;have hT:=top_bits (m:=M) (p:=p) (by omega) (by omega);rw[show blen M-p=lo by omega]at hT;have hE:Enc n d p (M/2^lo) ((lo:Int)-t):=⟨hF,hT⟩;obtain⟨e1,e2⟩:=Enc.unique hd (by omega) hE (enc_spec (by omega) (by omega) (by omega));refine⟨e1,e2,?_⟩;rw[e1,e2,←encX_iff (by omega)]at hX;rw[Bool.eq_iff_iff,decide_eq_true_iff];exact hX.symm
theorem low_bits(M i:Nat):(M%2^(i+1)=0)↔(M%2^i=0∧bitI M (i:Int)=0):=by
 have e:bitI M (i:Int)=M/2^i%2:=(by unfold bitI;rw[if_neg (by omega)];rfl);rw[e,Nat.pow_succ,Nat.mod_mul];have:=Nat.two_pow_pos i
 constructor
 ·
  intro h;have h1:M%2^i=0:=(by omega);have h2:2^i*(M/2^i%2)=0:=(by omega)
  rcases Nat.mul_eq_zero.1 h2 with h3 | h3
  ·
   omega
  exact⟨h1,h3⟩
 rintro⟨h1,h2⟩;rw[h1,h2]
 simp
theorem low_step{rest M i bb:Nat}(h:bitI M (i:Int)=bb):decide (rest=0∧M%2^(i+1)=0)=(decide (rest=0∧M%2^i=0)&&((bb:Int)==0)):=by
 have h1:=low_bits M i;rw[h]at h1;rw[Bool.eq_iff_iff];simp only[decide_eq_true_iff,Bool.and_eq_true,beq_iff_eq,h1]
 constructor
 ·
  rintro⟨a,b,c⟩;exact⟨⟨a,b⟩,by omega⟩
 rintro⟨⟨a,b⟩,c⟩;exact⟨a,b,by omega⟩
end Go.Fl.Dy
namespace Go.Proofs.YtgcjmhjjpbcfmaaGreatDoor
open Go.RowKit Go.Fl Go.Fl.Nm Go.Fl.Dy
def TwoZ(w wr:World):Prop:=Blk wr w.heap.size 75 #[.b false,.sn,.i 0]∧Blk wr (w.heap.size+1) 75 #[.b false,.sn,.i 0]∧Below w.heap.size w wr
theorem TwoZ.belowW{w a b:World}(h:TwoZ w a)(hb:Below a.heap.size a b):TwoZ w b:=⟨h.1.belowW hb,h.2.1.belowW hb,h.2.2.trans (hb.mono h.2.2.size)⟩
theorem TwoZ.b9{w a b:World}(h:TwoZ w a)(hb:Go.RowKit.Hid (Go.RowKit.Below a.heap.size a b)):Go.RowKit.Hid (TwoZ w b):=hI (TwoZ.belowW h hb.o)
theorem far3(W:World){g gx:Nat}(h:gx≠g)(a b c:Value)(j:Nat){v:Value}(hv:W.cell? ⟨gx,j,none⟩=some v):(((W.setCell ⟨g,0,none⟩ a).setCell ⟨g,1,none⟩ b).setCell ⟨g,2,none⟩ c).cell? ⟨gx,j,none⟩=some v:=by
 rw[World.cell?_setCell_far _ _ _ _ (Ne.symm h),World.cell?_setCell_far _ _ _ _ (Ne.symm h),World.cell?_setCell_far _ _ _ _ (Ne.symm h)];exact hv
theorem two_put{w w8:World}(h:TwoZ w w8)(a b c a' b' c':Value):∃W:World,((((((w8.setCell ⟨w.heap.size,0,none⟩ a).setCell ⟨w.heap.size,1,none⟩ b).setCell ⟨w.heap.size,2,none⟩ c).setCell ⟨w.heap.size+1,0,none⟩ a').setCell ⟨w.heap.size+1,1,none⟩ b').setCell ⟨w.heap.size+1,2,none⟩ c')=W∧
 Blk W w.heap.size 75 #[a,b,c]∧Blk W (w.heap.size+1) 75 #[a',b',c']∧Below w.heap.size w W∧(∀{A:Option Addr} {n m:Nat} {l:List Nat},Sl w8 A n m l→Sl W A n m l):=by
 obtain⟨h1,h2,h3⟩:=h;have g1:Blk (putB w8 w.heap.size 75 #[a,b,c]) (w.heap.size+1) 75 #[.b false,.sn,.i 0]:=h2.far (by omega) _;refine⟨_,rfl,?_⟩;rw[store3_put h1,store3_put g1];refine⟨(h1.put _).far (by omega) _,g1.put _,(h3.trans (putB_below _ _ _ _ (Nat.le_refl _))).trans (putB_below _ _ _ _ (by omega)),fun hs=>?_⟩;exact(hs.far h1 noU3 (putB_grown _ _ _ _)).far g1 noU3 (putB_grown _ _ _ _)
def DyR2(x y:D)(w:World)(e:Ending)(w':World):Prop:=
  ∃(A:Option Addr) (n c:Nat) (B:Option Addr) (m k:Nat),e= .returned (.tuple #[.agg #[.b x.neg,.l A n c,.i x.e],.agg #[.b y.neg,.l B m k,.i y.e]])∧Hid (Sl w' A n c (limbs x.k))∧Hid (Sl w' B m k (limbs y.k))∧Hid (Below w.heap.size w w')
def EndA(w:World)(n d:Nat)(k:Nat)(mv rv iv:Value)(wr:World):Prop:=
  ∃(A:Option Addr) (nm c:Nat) (l:List Nat) (M rest i:Nat),mv= .slice A nm c∧rv= .int .u64 rest∧iv= .int .i64 ((i:Int)-1)∧i=k∧i≤64∧rest<d∧nm≤64-i∧Hid (Sl wr A nm c l)∧Hid (val l=M)∧Hid (n/2^i=M*d+rest)∧Hid (TwoZ w wr)
def EndB(w:World)(n d p:Nat)(k:Nat)(mv rv ev:Value)(wr:World):Prop:=
  ∃(A:Option Addr) (nm c:Nat) (l:List Nat) (M rest t:Nat),mv= .slice A nm c∧rv= .int .u64 rest∧ev= .int .i64 (-(t:Int))∧p+40-t=k∧t≤p+32∧rest<d∧nm≤64+t∧Hid (Sl wr A nm c l)∧Hid (val l=M)∧Hid (n*2^t=M*d+rest)∧Hid (TwoZ w wr)
def EndC(W0:World)(M lo p:Nat)(k:Nat)(ov iv:Value)(wr:World):Prop:=
  ∃(q:Nat) (o:List Nat),iv= .int .i64 (32*(q:Int))∧k=p+32-32*q∧32*q<p+32∧Hid (o.length=q)∧Hid (ok o)∧Hid (wr.ownsRow W0.heap.size tU 1 ov q (U o))∧Hid (val o=M/2^lo%2^(32*q))∧Hid (Below W0.heap.size W0 wr)
theorem ends_r(n d p:Nat)(w:World)(hn:1≤n)(hn2:n≤1073741824)(hd:1≤d)(hd2:d≤1073741824)(hp:8≤p)(hp2:p≤512):
    Calls Tryz.prog 47 #[.int .u64 n,.int .u64 d,.i p] w (DyR2 (canon false (encT n d p) (encU n d p)) (canon false (endQ (encT n d p) (encX n d p) true) (encU n d p)) w):=by
  have fi:((d:Int)==0)=false:=by rw[beq_eq_false_iff_ne];omega
  go_in
  go_wp2_with fail;have B:=hI (show TwoZ w ((((w.alloc (.cells #[.b false,.sn,.i 0] 75)).alloc (.cells #[.b false,.sn,.i 0] 75)).alloc (.cells #[] 157)))from⟨((Blk.new _ _ _).alloc _).alloc _,(Blk.new1 _ _ _ _).alloc _,below_a3 _ _ _ _⟩);have cp:=hI (show Sl ((((w.alloc (.cells #[.b false,.sn,.i 0] 75)).alloc (.cells #[.b false,.sn,.i 0] 75)).alloc (.cells #[] 157))) (some ⟨w.heap.size+1+1,0,none⟩) 0 0 []from⟨rfl,ok_nil,Nat.le_refl _,by unfold maxLen;omega,fun h=>(by cases h),rfl,fun h=>absurd h (by omega)⟩)
  try simp only[Value.i,Value.b,Value.l,Value.sn,Value.p]
  go_loopg [8,9,11] 64 (EndA w n d)
  case atStart=>exact⟨_,0,0,[],0,0,64,rfl,rfl,rfl,rfl,by omega,by omega,by omega,cp,hI rfl,hI (by rw[Nat.zero_mul,Nat.add_zero];exact Nat.div_eq_of_lt (Nat.lt_of_le_of_lt hn2 (by decide))),B⟩
  case round=>
    clear cp B;obtain⟨A,G,c,l,M,rest,i,rfl,rfl,rfl,rfl,hi,hr,dl,u,H,P,B⟩:=hrel
    cases i with
    | zero=>
      rw[show((0:Nat):Int)-1= -1 by omega];go_wp2_with fail
      try simp only[Value.i,Value.b,Value.l,Value.sn,Value.p]
      go_loopg [8,9,10] (p+40) (EndB w n d p)
      case atStart=>exact⟨A,G,c,l,M,rest,0,rfl,rfl,by simp,rfl,by omega,hr,by omega,u,H,hI (by have:=P.o;simpa using this),B⟩
      case round=>
        clear u H P B;obtain⟨A,G,c,l,M,rest,t,rfl,rfl,rfl,rfl,ht,hr,dl,u,H,P,B⟩:=hrel
        obtain⟨b,hb⟩:∃b,blen M=b:=⟨_,rfl⟩
        have C:=hI (bits_r A G c l wr u.o (by omega));rw[H.o,hb]at C
        by_cases hbp:b<p
        · have dp:decide ((b:Int)<p)=true:=dT
          have fl:t≤p+31:=ends_bound hn hd2 hr P.o (by omega);clear hb;go_wp2_with fail;refine C.o.mono ?_;rintro e w' ⟨rfl,rfl⟩;go_wp2_with fail;refine(shifted_r A G c l wr u.o (by omega)).mono ?_;rw[H.o];rintro e w3 ⟨Q,S,T,V,rfl,cq,W,E,au⟩;have Y:=B.o.b9 au
          by_cases hrd:d≤2*rest
          · have dr:decide ((d:Int)≤2*(rest:Int))=true:=dT
            obtain⟨r2,av⟩:∃r2,2*rest-d=r2:=⟨_,rfl⟩
            have cr:2*(rest:Int)-d=(r2:Int):=(by omega);have F:=hI (show n*2^(t+1)=(2*M+1)*d+r2 by rw[Nat.pow_succ,←Nat.mul_assoc,P.o,Nat.add_mul (2*M),Nat.one_mul,Nat.add_mul,Nat.mul_comm 2 M,Nat.mul_right_comm];omega);go_wp2_with fail;refine(set_r Q S T V w3 W.o (by omega) (by rw[E.o];omega)).mono ?_;rw[E.o];rintro e w4 ⟨A4,n4,c4,l4,rfl,ct,a0,a1,a2⟩;have a3:=Y.o.b9 a2;go_wp2
            go_roundg (p+40-(t+1))
            case measure=>omega
            case rel=>exact⟨A4,n4,c4,l4,2*M+1,r2,t+1,rfl,rfl,by go_num,rfl,by omega,by omega,by omega,a0,a1,F,a3⟩
          · have dr:decide ((d:Int)≤2*(rest:Int))=false:=dF
            have F:=hI (show n*2^(t+1)=(2*M)*d+2*rest by rw[Nat.pow_succ,←Nat.mul_assoc,P.o,Nat.add_mul,Nat.mul_comm 2 M,Nat.mul_right_comm];omega);go_wp2
            go_roundg (p+40-(t+1))
            case measure=>omega
            case rel=>exact⟨Q,S,T,V,2*M,2*rest,t+1,rfl,by go_num,by go_num,rfl,by omega,by omega,by omega,W,E,F,Y⟩
        · have dp:decide ((b:Int)<p)=false:=dF
          have bp:=hI hb
          have fm:b≤40000:=by
            rw[←hb,←H.o];have:=val_lt u.o.ok;rw[u.o.len,BB_pow,←Nat.pow_mul]at this;exact Nat.le_trans (blen_le this) (by omega)
          obtain⟨lo,dq⟩:∃lo,b-p=lo:=⟨_,rfl⟩
          have fn:(b:Int)-p=(lo:Int):=(by omega);have ds:b=lo+p:=(by omega);clear hb dq;go_wp2_with fail;refine C.o.mono ?_;rintro e w' ⟨rfl,rfl⟩;go_wp2_with fail;refine C.o.mono ?_;rintro e w' ⟨rfl,rfl⟩;go_wp2_with fail;obtain⟨W0,cu⟩:=eX (wr);rw[←cu]at u B ⊢;clear cu C
          try simp only[Value.i,Value.b,Value.l,Value.sn,Value.p]
          go_loopg [15,16] (p+32) (EndC W0 M lo p)
          case atStart=>exact⟨0,[],rfl,by omega,by omega,hI rfl,hI ok_nil,hI ⟨rfl,.inl ⟨rfl,rfl⟩⟩,hI (by simp[val_nil,Nat.mod_one]),hI (Below.refl _ _)⟩
          case round=>
            obtain⟨q,o,rfl,hk,hq,cv,cw,br,bi,a5⟩:=hrel
            by_cases hst:32*q<p
            · have dt:decide (32*(q:Int)<p)=true:=dT
              have FA:=hI (u.o.below a5.o);go_wp2_with fail
              try simp only[Value.i,Value.b,Value.l,Value.sn,Value.p]
              go_loop [17,18] (fun x v=>∃kk:Nat,v= .int .i64 kk∧kk≤32∧32*q+kk≤p∧x= .int .u32 ((M/2^(lo+32*q)%2^kk:Nat):Int)) (fun _ v=>32-(intOf v).toNat)
              case atStart=>exact⟨0,rfl,by omega,by omega,by rw[Nat.pow_zero,Nat.mod_one];rfl⟩
              case round=>
                obtain⟨kk,rfl,du,fo,rfl⟩:=hrel
                by_cases hgo:kk<32∧32*q+kk<p
                · obtain⟨cx,fp⟩:=hgo
                  have dk:decide ((kk:Int)<32)=true:=dT;have fs:decide (32*(q:Int)+kk<p)=true:=dT;have C:=hI (bit_r A G c ((lo:Int)+32*q+kk) l wr FA.o (by omega) (by omega) (by omega));rw[H.o]at C;have HW:=hI (word_next M (lo+32*q) kk);rw[show((lo+32*q:Nat):Int)+kk=(lo:Int)+32*q+kk by omega]at HW
                  obtain⟨bb,ac⟩:∃bb,bitI M ((lo:Int)+32*q+kk)=bb:=⟨_,rfl⟩
                  have bs:bb≤1:=(by rw[←ac];exact bitI_le _ _);rw[ac]at C HW
                  obtain⟨x,I⟩:∃x,M/2^(lo+32*q)%2^kk=x:=⟨_,rfl⟩
                  have dv:x<2^kk:=(by rw[←I];exact Nat.mod_lt _ (Nat.two_pow_pos _));have dw:=word_or dv cx bs;rw[I]at HW ⊢;clear ac I;go_wp2_with fail;refine C.o.mono ?_;rintro e w' ⟨rfl,rfl⟩;go_wp2_with fail;refine⟨⟨kk+1,by go_num,by omega,by omega,?_⟩,?_⟩
                  · rw[HW.o,←dw,shl_small cx bs]
                  · simp[intOf];omega
                · have cy:=hI (word_end M lo q o cv.o bi.o)
                  have cz:=hI (show M/2^(lo+32*q)%2^kk=M/2^(lo+32*q)%2^32 by
                    by_cases h32:kk=32
                    · rw[h32]
                    · have ft:p=32*q+kk:=by omega
                      have c0:M/2^(lo+32*q)<2^kk:=by
                        have h1:=blen_lt (Nat.le_of_eq bp.o);rw[Nat.div_lt_iff_lt_mul (Nat.two_pow_pos _),←Nat.pow_add,show kk+(lo+32*q)=b by omega];exact h1
                      rw[Nat.mod_eq_of_lt c0,Nat.mod_eq_of_lt (Nat.lt_of_lt_of_le c0 (Nat.pow_le_pow_right (by decide) du))])
                  rw[cz.o]
                  obtain⟨X,hX⟩:∃X,M/2^(lo+32*q)%2^32=X:=⟨_,rfl⟩
                  have fu:X<4294967296:=(by rw[←hX];exact Nat.mod_lt _ (by decide));rw[hX]at cy ⊢;clear hX cz
                  have dy:decide ((kk:Int)<32)=false∨(decide ((kk:Int)<32)=true∧decide (32*(q:Int)+kk<p)=false):=by
                    by_cases h32:kk<32
                    · exact .inr ⟨dT,dF⟩
                    · exact .inl (dF)
                  obtain⟨i0,ti,ag,ah,ai⟩:=info_parts Tryz.infoU32;have fv:=a5.o.size;have dz:=hI (show ok (o++[X])from ok_append.2 ⟨cw.o,ok_cons.2 ⟨by unfold BB;omega,ok_nil⟩⟩);have d0:=hI (show(o++[X]).length=q+1 by rw[List.length_append,cv.o];rfl);clear hgo
                  rcases dy with d1 | ⟨d1,d2⟩
                  all_goals
                    go_wp2_with (at_builtin;refine wpList_append_lies _ rfl _ _ _ rfl W0.heap.size 157 i0 _ 1 4 Tryz.underlying73 ti ag ah ai rfl (by omega) u15 q (U o) rfl (by exact br.o.alloc _) ⟨wr.heap.size,0,none⟩ 1 1 [.int .u32 (X:Int)] rfl rfl (by exact World.news_of_block (cs:=#[.int .u32 (X:Int)]) (t:=157) (fr:=(0,0)) (heap_alloc_new wr _)) (by simp[Value.oneCell']) (by omega) (by unfold maxLen;omega) (by omega) (by simp;omega) (wr.heap.size+1) (by simp) ?_)
                    intro g cap w3 hown hgrow hat hlt2;have d3:=hI (show w3.ownsRow W0.heap.size tU 1 (.l (some ⟨g,0,none⟩) (q+1) cap) (q+1) (U (o++[X]))by rw[U_append];exact hown);have d4:=hI (show Below W0.heap.size W0 w3 from(a5.o.alloc (by omega) _).grown hgrow (by simp;omega) (fun k hk=>(br.o.lt k hk).1));clear hown hgrow hat hlt2 ti ag ah ai;go_wp2
                    go_roundg (p+32-32*(q+1))
                    case measure=>omega
                    case rel=>exact⟨q+1,o++[X],by go_num,rfl,by omega,d0,dz,d3,cy,d4⟩
            · have dt:decide (32*(q:Int)<p)=false:=dF
              obtain⟨A',c',hu,a8⟩:=Nw.of_own br.o cw.o;subst hu;have HN:=hI a8.sl;clear a8;obtain⟨bq,oq,xq,d6,_⟩:=HN.o.at_ (i:=0) (by omega);subst d6;have FA:=hI (u.o.below a5.o);have J:=B.o.b9 a5;have bz:=hI (ends_fin hn hd hp P.o hr bp.o ds)
              have c1:=hI (show val o=encT n d p by
                rw[bi.o,←bz.o.1];refine Nat.mod_eq_of_lt (Nat.lt_of_lt_of_le (m:=2^p) ?_ (Nat.pow_le_pow_right (by decide) (by omega)));rw[Nat.div_lt_iff_lt_mul (Nat.two_pow_pos _),←Nat.pow_add,show p+lo=b by omega]
                exact blen_lt (Nat.le_of_eq bp.o))
              have fy:q≤20:=(by omega);have d7:0<q:=(by omega)
              have b0:=hI (show((rest:Int)==0)=decide (rest=0∧M%2^0=0)by
                rw[Bool.eq_iff_iff];simp only[decide_eq_true_iff,beq_iff_eq,Nat.pow_zero,Nat.mod_one,and_true]
                omega)
              go_wp2_with fail
              try simp only[Value.i,Value.b,Value.l,Value.sn,Value.p]
              go_loop [14,19] (fun x v=>∃(i:Nat) (xb:Bool),v= .int .i64 i∧i≤lo∧x= .bool xb∧Hid (xb=decide (rest=0∧M%2^i=0))) (fun _ v=>lo-(intOf v).toNat)
              case atStart=>exact⟨0,(rest:Int)==0,rfl,by omega,rfl,b0⟩
              case round=>
                obtain⟨i,xb,rfl,fz,rfl,ba⟩:=hrel
                by_cases hil:i<lo
                · have di:decide ((i:Int)<lo)=true:=dT
                  have C:=hI (bit_r A G c (i:Int) l wr FA.o (by omega) (by omega) (by omega));rw[H.o]at C
                  obtain⟨bb,ac⟩:∃bb,bitI M (i:Int)=bb:=⟨_,rfl⟩
                  have c6:=hI (low_step (rest:=rest) ac);rw[ac]at C;clear ac
                  cases xb with
                  | false=>
                    go_wp2_with fail;refine⟨⟨i+1,false,by go_num,by omega,rfl,hI (by rw[c6.o,←ba.o];rfl)⟩,?_⟩
                    simp[intOf];omega
                  | true=>
                    go_wp2_with fail;refine C.o.mono ?_;rintro e w' ⟨rfl,rfl⟩;go_wp2_with fail;refine⟨⟨i+1,((bb:Int)==0),by go_num,by omega,rfl,hI (by rw[c6.o,←ba.o];rfl)⟩,?_⟩
                    simp[intOf];omega
                · have di:decide ((i:Int)<lo)=false:=dF
                  obtain rfl:i=lo:=by omega
                  have c9:=hI (show xb=encX n d p by rw[ba.o];exact bz.o.2.2);have da:(-(t:Int))+(i:Int)=(i:Int)-t:=(by omega);clear hil;rw[bz.o.2.1]at da
                  obtain⟨U,hU⟩:∃U,encU n d p=U:=⟨_,rfl⟩
                  rw[hU]at da;go_wp2_with fail;refine(made_r false (some ⟨bq,oq,none⟩) q c' o U wr HN.o (by omega) (by omega) (by omega)).mono ?_;rw[c1.o];rintro e w5 ⟨a,j,r,rfl,bk,al⟩
                  obtain⟨x,I⟩:∃x,canon false (encT n d p) U=x:=⟨_,rfl⟩
                  rw[I]at bk ⊢;have HX:=hI I;obtain⟨s,hw,bc,Z⟩:=aX w5 75 #[.b x.neg,.l a j r,.i x.e];have b1:=bk.o.b9 bc;have d9:=hI ((HN.o.belowW al.o).belowW bc.o);have z:=hI ((J.o.belowW al.o).belowW bc.o)
                  obtain⟨gx,bd⟩:∃gx,w5.heap.size=gx:=⟨_,rfl⟩
                  rw[bd]at Z;have aa:gx≠w.heap.size:=(by rw[←bd];have:=((J.o.belowW al.o).1).lt;omega);have ab:gx≠w.heap.size+1:=(by rw[←bd];have:=((J.o.belowW al.o).2.1).lt;omega);have db:=hI (show canon false (encT n d p) (encU n d p)=x by rw[hU];exact I)
                  cases xb with
                  | true=>
                    have b2:=hI (show canon false (endQ (encT n d p) (encX n d p) true) (encU n d p)=x by rw[←c9.o,hU];exact I);clear I hU;go_upto_region 38 with(fail);rw[←hw];clear hw bd al bc bk b0 ba bi HN FA J u B;have e0:(s).cell? ⟨gx,0,none⟩=some (.b x.neg):=Z.o.cell 0;have e1:(s).cell? ⟨gx,1,none⟩=some (.l a j r):=Z.o.cell 1;have e2:(s).cell? ⟨gx,2,none⟩=some (.i x.e):=Z.o.cell 2;have ea:(s).cell? ⟨w.heap.size,0,none⟩=some (.b false):=z.o.1.cell 0;have eb:(s).frozen? ⟨w.heap.size,0,none⟩=false:=z.o.1.frozen 0;have ec:(s).cell? ⟨w.heap.size,1,none⟩=some (.sn):=z.o.1.cell 1;have ed:(s).frozen? ⟨w.heap.size,1,none⟩=false:=z.o.1.frozen 1;have ee:(s).cell? ⟨w.heap.size,2,none⟩=some (.i 0):=z.o.1.cell 2;have ef:(s).frozen? ⟨w.heap.size,2,none⟩=false:=z.o.1.frozen 2;have eg:(s).cell? ⟨w.heap.size+1,0,none⟩=some (.b false):=z.o.2.1.cell 0;have eh:(s).frozen? ⟨w.heap.size+1,0,none⟩=false:=z.o.2.1.frozen 0;have ei:(s).cell? ⟨w.heap.size+1,1,none⟩=some (.sn):=z.o.2.1.cell 1;have ej:(s).frozen? ⟨w.heap.size+1,1,none⟩=false:=z.o.2.1.frozen 1;have ek:(s).cell? ⟨w.heap.size+1,2,none⟩=some (.i 0):=z.o.2.1.cell 2;have el:(s).frozen? ⟨w.heap.size+1,2,none⟩=false:=z.o.2.1.frozen 2;have k0:=far3 s aa (.b x.neg) (.l a j r) (.i x.e) 0 e0;have k1:=far3 s aa (.b x.neg) (.l a j r) (.i x.e) 1 e1;have k2:=far3 s aa (.b x.neg) (.l a j r) (.i x.e) 2 e2;have l0:=far3 _ ab (.b x.neg) (.l a j r) (.i x.e) 0 k0;have l1:=far3 _ ab (.b x.neg) (.l a j r) (.i x.e) 1 k1;have l2:=far3 _ ab (.b x.neg) (.l a j r) (.i x.e) 2 k2;clear aa ab
                    go_region
                    all_goals go_wp2_with fail
                    all_goals
                      obtain⟨w9,be,L,N,bf,af⟩:=two_put z.o (.b x.neg) (.l a j r) (.i x.e) (.b x.neg) (.l a j r) (.i x.e);rw[be];clear be;have b6:=hI (af b1.o);have b7:=hI (af b1.o);have b8:=hI bf;have ca:w9.cell? ⟨w.heap.size,0,none⟩=some (.b x.neg):=L.cell 0;have cb:w9.cell? ⟨w.heap.size,1,none⟩=some (.l a j r):=L.cell 1;have cc:w9.cell? ⟨w.heap.size,2,none⟩=some (.i x.e):=L.cell 2;have cd:w9.cell? ⟨w.heap.size+1,0,none⟩=some (.b x.neg):=N.cell 0;have ce:w9.cell? ⟨w.heap.size+1,1,none⟩=some (.l a j r):=N.cell 1;have cf:w9.cell? ⟨w.heap.size+1,2,none⟩=some (.i x.e):=N.cell 2;clear L N bf af;refine bodyPost_ret (v:= .tuple #[.agg #[.b x.neg,.l a j r,.i x.e],.agg #[(.b x.neg),(.l a j r),(.i x.e)]]) (by simp[results,Tryz.results47,go_sem,ca,cb,cc,cd,ce,cf]) rfl ?_;rw[db.o,b2.o]
                      exact⟨_,_,_,_,_,_,rfl,hI b6.o,hI b7.o,hI (below_drewN b8.o 1)⟩
                  | false=>
                    obtain⟨y,hy⟩:∃y,canon false (encT n d p+1) U=y:=⟨_,rfl⟩
                    have HY:=hI hy;have b2:=hI (show canon false (endQ (encT n d p) (encX n d p) true) (encU n d p)=y by rw[←c9.o,hU];exact hy);have f1:IntKind.i64.wrap U=U:=IntWalk.i64_in _ (by omega);have eq: -100000≤U:=(by omega);have er:U≤100000:=(by omega);have es:q≤1000:=(by omega);clear I hU hy;go_upto_region 39 with(fail);rw[←hw];clear hw bd al bc bk b0 ba bi HN FA J u B;have et:=hI (show TwoZ w s.drew from z.o.belowW (below_drewN (Below.refl _ _) 1));have eu:=hI (show Sl s.drew a j r (limbs x.k)from b1.o);have ev:=hI (show Sl s.drew (some ⟨bq,oq,none⟩) q c' o from d9.o);have ew:=hI (show Blk s.drew gx 75 #[.b x.neg,.l a j r,.i x.e]from Z.o);have e0:(s.drew).cell? ⟨gx,0,none⟩=some (.b x.neg):=Z.o.cell 0;have e1:(s.drew).cell? ⟨gx,1,none⟩=some (.l a j r):=Z.o.cell 1;have e2:(s.drew).cell? ⟨gx,2,none⟩=some (.i x.e):=Z.o.cell 2
                    go_region_held3 (fun w'=>w'.cell? ⟨gx,0,none⟩=some (.b x.neg)∧w'.cell? ⟨gx,1,none⟩=some (.l a j r)∧w'.cell? ⟨gx,2,none⟩=some (.i x.e)) ((with_reducible refine⟨?_,?_,?_⟩)<;>(with_reducible assumption)) (first
                      | (go_at_call 87
                         (with_reducible refine(next_r bq oq q c' o _ ev.o es d7).mono ?_)
                         rw[c1.o];rintro e w7 ⟨A7,n7,c7,l7,rfl,f2,e3,e4,ch⟩;have e5:=et.o.b9 ch;have e6:=eu.o.b9 ch;have bm:=ew.o.b9 ch;have e7:n7≤1000:=(by omega);have i0:(w7).cell? ⟨gx,0,none⟩=some (.b x.neg):=bm.o.cell 0;have i1:(w7).cell? ⟨gx,1,none⟩=some (.l a j r):=bm.o.cell 1
                         have i2:(w7).cell? ⟨gx,2,none⟩=some (.i x.e):=bm.o.cell 2)
                      | (go_at_call 86
                         (with_reducible refine(made_r false A7 n7 c7 l7 U _ e3.o e7 eq er).mono ?_)
                         rw[e4.o,HY.o];rintro e w8 ⟨A8,n8,c8,rfl,e8,ci⟩;have D:=e5.o.b9 ci;have e9:=e6.o.b9 ci;have cj:=bm.o.b9 ci;have j0:(w8).cell? ⟨gx,0,none⟩=some (.b x.neg):=cj.o.cell 0;have j1:(w8).cell? ⟨gx,1,none⟩=some (.l a j r):=cj.o.cell 1;have j2:(w8).cell? ⟨gx,2,none⟩=some (.i x.e):=cj.o.cell 2;have ea:(w8).cell? ⟨w.heap.size,0,none⟩=some (.b false):=D.o.1.cell 0;have eb:(w8).frozen? ⟨w.heap.size,0,none⟩=false:=D.o.1.frozen 0;have ec:(w8).cell? ⟨w.heap.size,1,none⟩=some (.sn):=D.o.1.cell 1;have ed:(w8).frozen? ⟨w.heap.size,1,none⟩=false:=D.o.1.frozen 1;have ee:(w8).cell? ⟨w.heap.size,2,none⟩=some (.i 0):=D.o.1.cell 2;have ef:(w8).frozen? ⟨w.heap.size,2,none⟩=false:=D.o.1.frozen 2;have eg:(w8).cell? ⟨w.heap.size+1,0,none⟩=some (.b false):=D.o.2.1.cell 0;have eh:(w8).frozen? ⟨w.heap.size+1,0,none⟩=false:=D.o.2.1.frozen 0;have ei:(w8).cell? ⟨w.heap.size+1,1,none⟩=some (.sn):=D.o.2.1.cell 1;have ej:(w8).frozen? ⟨w.heap.size+1,1,none⟩=false:=D.o.2.1.frozen 1;have ek:(w8).cell? ⟨w.heap.size+1,2,none⟩=some (.i 0):=D.o.2.1.cell 2;have el:(w8).frozen? ⟨w.heap.size+1,2,none⟩=false:=D.o.2.1.frozen 2;have k0:=far3 (w8) aa (.b x.neg) (.l a j r) (.i x.e) 0 j0;have k1:=far3 (w8) aa (.b x.neg) (.l a j r) (.i x.e) 1 j1;have k2:=far3 (w8) aa (.b x.neg) (.l a j r) (.i x.e) 2 j2;have l0:=far3 _ ab (.b y.neg) (.l A8 n8 c8) (.i y.e) 0 k0;have l1:=far3 _ ab (.b y.neg) (.l A8 n8 c8) (.i y.e) 1 k1;have l2:=far3 _ ab (.b y.neg) (.l A8 n8 c8) (.i y.e) 2 k2
                         clear aa ab))
                    all_goals go_wp2_with fail
                    obtain⟨w9,be,L,N,bf,af⟩:=two_put D.o (.b x.neg) (.l a j r) (.i x.e) (.b y.neg) (.l A8 n8 c8) (.i y.e);rw[be];clear be;have b6:=hI (af e9.o);have b7:=hI (af e8.o);have b8:=hI bf;have ca:w9.cell? ⟨w.heap.size,0,none⟩=some (.b x.neg):=L.cell 0;have cb:w9.cell? ⟨w.heap.size,1,none⟩=some (.l a j r):=L.cell 1;have cc:w9.cell? ⟨w.heap.size,2,none⟩=some (.i x.e):=L.cell 2;have cd:w9.cell? ⟨w.heap.size+1,0,none⟩=some (.b y.neg):=N.cell 0;have ce:w9.cell? ⟨w.heap.size+1,1,none⟩=some (.l A8 n8 c8):=N.cell 1;have cf:w9.cell? ⟨w.heap.size+1,2,none⟩=some (.i y.e):=N.cell 2;clear L N bf af;refine bodyPost_ret (v:= .tuple #[.agg #[.b x.neg,.l a j r,.i x.e],.agg #[(.b y.neg),(.l A8 n8 c8),(.i y.e)]]) (by simp[results,Tryz.results47,go_sem,ca,cb,cc,cd,ce,cf]) rfl ?_;rw[db.o,b2.o]
                    exact⟨_,_,_,_,_,_,rfl,b6,b7,b8⟩
    | succ i=>
      rw[show((i+1:Nat):Int)-1=i by omega];have fd:=and1_64 n i (by omega);have O:=hI (long_step (i:=i) hd hr P.o)
      obtain⟨bt,dg⟩:∃b,n/2^i%2=b:=⟨_,rfl⟩
      have bs:bt≤1:=(by generalize n/2^i=t at *;omega);rw[dg]at fd O
      obtain⟨R,hR⟩:∃R,2*rest+bt=R:=⟨_,rfl⟩
      rw[hR]at O;have f5:2*(rest:Int)+bt=(R:Int):=(by omega);have f6:R≤2147483648:=(by omega);clear dg hR
      obtain⟨q,hq⟩:∃q,R/d=q:=⟨_,rfl⟩
      obtain⟨r2,av⟩:∃r2,R%d=r2:=⟨_,rfl⟩
      have bn:r2<d:=(by rw[←av];exact Nat.mod_lt _ hd);have fe:(R:Int)/(d:Int)=(q:Int):=(by rw[←Int.natCast_ediv,hq]);have f7:(R:Int).tdiv (d:Int)=(q:Int):=(by rw[Int.tdiv_eq_ediv_of_nonneg (by omega)];exact fe);have cr:(R:Int)%(d:Int)=(r2:Int):=(by rw[←Int.natCast_emod,av]);have f8:(R:Int).tmod (d:Int)=(r2:Int):=(by rw[Int.tmod_eq_emod_of_nonneg (by omega)];exact cr);rw[hq,av]at O;clear hq av;obtain⟨i0,ti,ag,ah,ai⟩:=info_parts Tryz.infoU32;have cl:=hI (show(wr.alloc (.cells #[] tU)).ownsRow wr.heap.size tU 1 (.l (some ⟨wr.heap.size,0,none⟩) 0 0) 0 []from⟨rfl,.inr ⟨wr.heap.size,0,#[],rfl,Nat.le_refl _,Blk.new _ _ _,Nat.le_refl _,by unfold maxLen;omega,rfl,rfl⟩⟩);have cm:=hI ((Below.refl wr.heap.size wr).alloc (Nat.le_refl _) (.cells #[] tU));have dj:=hI (u.o.rd.alloc (.cells #[] tU))
      cases A with
      | none=>
        obtain rfl:c=0:=u.o.nil rfl
        obtain rfl:G=0:=by have:=u.o.cap;omega
        obtain rfl:l=[]:=List.eq_nil_of_length_eq_zero u.o.len
        go_wp2_with (at_builtin;refine wpList_append_own_none rfl _ _ _ rfl wr.heap.size 157 i0 1 Tryz.underlying73 ti (.l (some ⟨wr.heap.size,0,none⟩) 0 0) 0 [] rfl (by exact cl.o) rfl ?_)
        clear ti ag ah ai;obtain⟨w2,cn⟩:=eX (wr.alloc (.cells #[] tU));have bo:=hI (show Below wr.heap.size wr w2 by rw[cn];exact cm.o)
        obtain⟨A2,co⟩:∃A2:Option Addr,A2=some ⟨wr.heap.size,0,none⟩:=⟨_,rfl⟩
        have bg:=hI (show Sl w2 A2 0 0 []by rw[co];exact⟨rfl,ok_nil,Nat.le_refl _,by unfold maxLen;omega,fun h=>(by cases h),rfl,fun h=>absurd h (by omega)⟩);have J:=B.o.b9 bo;rw[←cn,←co];clear cn co cl cm dj bo;have ff:=bg.o.max;go_wp2_with fail;refine(shifted_r A2 0 0 [] w2 bg.o (by omega)).mono ?_;rw[H.o];rintro e w3 ⟨Q,S,T,V,rfl,cq,W,E,au⟩;have Y:=J.o.b9 au
        by_cases hq1:q=1
        · subst hq1
          have F:=hI (show n/2^i=(2*M+1)*d+r2 from O.o.2);go_wp2_with fail;refine(set_r Q S T V w3 W.o (by omega) (by rw[E.o];omega)).mono ?_;rw[E.o];rintro e w4 ⟨A4,n4,c4,l4,rfl,ct,a0,a1,a2⟩;have a3:=Y.o.b9 a2;go_wp2
          go_roundg i
          case measure=>omega
          case rel=>exact⟨A4,n4,c4,l4,2*M+1,r2,i,rfl,rfl,by go_num,rfl,by omega,bn,by omega,a0,a1,F,a3⟩
        · obtain rfl:q=0:=by have:=O.o.1;omega
          have F:=hI (show n/2^i=(2*M)*d+r2 from O.o.2);clear hq1;go_wp2
          go_roundg i
          case measure=>omega
          case rel=>exact⟨Q,S,T,V,2*M,r2,i,rfl,rfl,by go_num,rfl,by omega,bn,by omega,W,E,F,Y⟩
      | some ad=>
        go_wp2_with (at_builtin;refine wpList_append_rd _ rfl _ _ _ rfl wr.heap.size 157 i0 _ 1 4 Tryz.underlying73 ti ag ah ai rfl (by omega) (.l (some ⟨wr.heap.size,0,none⟩) 0 0) 0 [] rfl (by exact cl.o) (some ad) G c (by simp) (U l) rfl (by exact dj.o) (U_one _) (by unfold maxLen;omega) (by omega) (by simp) ?_)
        intro v' w2 hown2 hgrow;have fg:=hI (show w2.ownsRow wr.heap.size tU 1 v' G (U l)from hown2)
        have bo:=hI (cm.o.trans (below_of_grown hgrow (by
          intro g hg
          have:wr.heap.size=g:=by simpa [Value.ownBlock]using hg
          omega) (by simp)))
        clear hown2 hgrow ti ag ah ai;obtain⟨A2,c2,rfl,a8⟩:=Nw.of_own fg.o u.o.ok;have bg:=hI a8.sl;have J:=B.o.b9 bo;clear a8;have ff:=bg.o.max;go_wp2_with fail;refine(shifted_r A2 G c2 l w2 bg.o (by omega)).mono ?_;rw[H.o];rintro e w3 ⟨Q,S,T,V,rfl,cq,W,E,au⟩;have Y:=J.o.b9 au
        by_cases hq1:q=1
        · subst hq1
          have F:=hI (show n/2^i=(2*M+1)*d+r2 from O.o.2);go_wp2_with fail;refine(set_r Q S T V w3 W.o (by omega) (by rw[E.o];omega)).mono ?_;rw[E.o];rintro e w4 ⟨A4,n4,c4,l4,rfl,ct,a0,a1,a2⟩;have a3:=Y.o.b9 a2;go_wp2
          go_roundg i
          case measure=>omega
          case rel=>exact⟨A4,n4,c4,l4,2*M+1,r2,i,rfl,rfl,by go_num,rfl,by omega,bn,by omega,a0,a1,F,a3⟩
        · obtain rfl:q=0:=by have:=O.o.1;omega
          have F:=hI (show n/2^i=(2*M)*d+r2 from O.o.2);clear hq1;go_wp2
          go_roundg i
          case measure=>omega
          case rel=>exact⟨Q,S,T,V,2*M,r2,i,rfl,rfl,by go_num,rfl,by omega,bn,by omega,W,E,F,Y⟩
