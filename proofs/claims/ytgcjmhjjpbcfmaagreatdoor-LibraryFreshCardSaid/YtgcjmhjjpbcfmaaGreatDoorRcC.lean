import Derived.Test.YtgcjmhjjpbcfmaaGreatDoorRn
set_option maxHeartbeats 2000000
namespace Go.Fl.Dy
open Go.Fl.Nm
theorem v2_bit{V j:Nat}(h:V%2^j=0)(h1:V/2^j%2=1):v2 V=j∧od V=V/2^j:=by
 refine v2_unique h1 ?_;have:=Nat.div_add_mod V (2^j);rw[h,Nat.add_zero]at this;exact this.symm
theorem low_next{V j:Nat}(h:V%2^j=0)(h1:V/2^j%2=0):V%2^(j+1)=0:=by
 rw[Nat.pow_succ,Nat.mod_mul,h,h1]
 simp
theorem low_lt{V j:Nat}(h0:V≠0)(h:V%2^j=0):j<blen V:=by
 rcases Nat.lt_or_ge j (blen V)with h1 | h1
 ·
  exact h1
 exfalso
 have h2:=blen_lt h1;rw[Nat.mod_eq_of_lt h2]at h;exact h0 h
theorem word_next(V i k:Nat):V/2^i%2^(k+1)=V/2^i%2^k+2^k*bitI V ((i:Int)+k):=by
 have e:bitI V ((i:Int)+k)=V/2^i/2^k%2:=by
  unfold bitI;rw[if_neg (by omega),show((i:Int)+k).toNat=i+k by omega,Nat.pow_add,Nat.div_div_eq_div_mul]
 rw[e,Nat.pow_succ,Nat.mod_mul]
theorem word_or{x k b:Nat}(hx:x<2^k)(hk:k<32)(hb:b≤1):Go.bits .or .u32 (x:Int) ((b:Int)*2^k)=((x+2^k*b:Nat):Int):=by
 have hp:2^k≤2^31:=Nat.pow_le_pow_right (by decide) (by omega);have hbb:2^k*b≤2^31:=Nat.le_trans (Nat.mul_le_mul_left _ hb) (by omega)
 have hw:∀n:Int,0≤n→n<2^32→IntKind.u32.wrap n=n:=fun n h0 h1=>by rw[IntKind.wrap_u32];omega
 have h1:=(bits_nat .u32 32 (by decide) hw x (2^k*b) (by omega) (by omega)).2;have h2:=(bits_nat .u32 32 (by decide) hw (2^k*b) x (by omega) (by omega)).2;have h3:=bits_join .u32 32 (by decide) hw k ((2^k*b:Nat):Int) (x:Int) (by omega) (by rw[Int.natCast_mul,Int.natCast_pow];exact Int.mul_emod_right _ _) (by omega) (by omega) (by exact_mod_cast hx) (by omega);have e:(b:Int)*2^k=((2^k*b:Nat):Int):=(by rw[Int.natCast_mul,Int.natCast_pow,Int.mul_comm];rfl);rw[e,h1,Nat.or_comm,←h2,h3]
 omega
theorem shl_small{k b:Nat}(hk:k<32)(hb:b≤1):(b:Int)*2^k%4294967296=(b:Int)*2^k:=by
 have hp:2^k≤2^31:=Nat.pow_le_pow_right (by decide) (by omega);have e:(b:Int)*2^k=((b*2^k:Nat):Int):=(by rw[Int.natCast_mul,Int.natCast_pow];rfl);have h:b*2^k≤1*2^31:=Nat.mul_le_mul hb hp;rw[e]
 omega
theorem word_end(V j q:Nat)(o:List Nat)(hl:o.length=q)(hv:val o=V/2^j%2^(32*q)):val (o++[V/2^(j+32*q)%2^32])=V/2^j%2^(32*(q+1)):=by
 rw[val_snoc,hl,hv,show 32*(q+1)=32*q+32 by omega,Nat.pow_add 2 (32*q) 32,Nat.mod_mul,BB_pow,←Nat.pow_mul,Nat.pow_add 2 j,Nat.div_div_eq_div_mul]
theorem limbs_same{o:List Nat}(h:ok o)(hl:o.length=(limbs (val o)).length):o=limbs (val o):=by
 have h1:=trim_limbs h;rw[tl_limbs h,←hl,List.take_length]at h1;exact h1
end Go.Fl.Dy
namespace Go.Proofs.YtgcjmhjjpbcfmaaGreatDoor
open Go.RowKit Go.Fl Go.Fl.Nm Go.Fl.Dy
def MadeRel(w:World)(neg:Bool)(ex:Int)(gd V B j:Nat)(k:Nat)(v:Value)(wr:World):Prop:=
  ∃(q:Nat) (o:List Nat) (sv:Value),v= .int .i64 ((j:Int)+32*q)∧k=B+32-(j+32*q)∧j+32*q<B+32∧Hid (o.length=q)∧Hid (ok o)∧Hid (wr.ownsRow (gd+1) tU 1 sv q (U o))∧
    Hid (Blk wr gd 75 #[.bool neg,sv,.int .i64 ex])∧Hid (Blk wr w.heap.size 75 #[.bool false,.slice none 0 0,.int .i64 0])∧Hid (val o=V/2^j%2^(32*q))∧Hid (Below w.heap.size w wr)∧gd<wr.heap.size
theorem made_r(neg:Bool)(A:Option Addr)(n c:Nat)(l:List Nat)(ex:Int)(w:World)(ha:Sl w A n c l)(hn:n≤1000)(e1: -100000≤ex)(e2:ex≤100000):
 Calls Tryz.prog 86 #[.b neg,.l A n c,.i ex] w (DyR (canon neg (val l) ex) w):=by
 have HA:=hI ha
 have ac:blen (val l)≤32000:=by
  have:=val_lt ha.ok;rw[ha.len,BB_pow,←Nat.pow_mul]at this;exact Nat.le_trans (blen_le this) (by omega)
 clear ha
 obtain⟨V,H⟩:∃V,val l=V:=⟨_,rfl⟩
 obtain⟨B,I⟩:∃B,blen V=B:=⟨_,rfl⟩
 rw[H]at ac ⊢;rw[I]at ac;have C:=hI H;have s:=hI I;clear H I;obtain⟨d,p,D,i⟩:=aX w 75 #[.b false,.sn,.i 0];have E:=HA.o.b9 D
 by_cases hz:V=0
 ·
  obtain rfl:B=0:=by rw[←s.o,hz];rfl
  have HR:=hI (show canon neg V ex=⟨false,0,0⟩by rw[hz];rfl);clear hz
  go_in
  go_wp2_with fail;rw[←p];clear p;refine(bits_r A n c l d E.o (by omega)).mono ?_;rw[C.o,s.o];rintro e w' ⟨rfl,rfl⟩;have J:=i.o.cell;have au:d.frozen? ⟨w.heap.size,0,none⟩=false:=i.o.frozen 0;have av:d.frozen? ⟨w.heap.size,1,none⟩=false:=i.o.frozen 1;have aw:d.frozen? ⟨w.heap.size,2,none⟩=false:=i.o.frozen 2;go_wp2;refine bodyPost_ret (v:= .agg #[.b false,.sn,.i 0]) (by simp[results,Tryz.results86,go_sem,J]) rfl ?_;rw[HR.o];exact⟨none,0,0,rfl,hI (by rw[limbs_zero];exact Sl.none_ _),hI (store3_below D.o i.o _ _ _ (Nat.le_refl _))⟩
 have bk:((B:Int)==0)=false:=(by rw[beq_eq_false_iff_ne];have:=blen_pos hz;rw[s.o]at this;omega);have L:=hI hz;clear hz
 go_in
 go_wp2_with fail;rw[←p];clear p;refine(bits_r A n c l d E.o (by omega)).mono ?_;rw[C.o,s.o];rintro e w' ⟨rfl,rfl⟩;go_wp2_with fail
 try simp only[Value.i,Value.b,Value.l,Value.sn,Value.p]
 go_loop [8] (fun v=>∃j:Nat,v= .int .i64 j∧j≤B∧Hid (V%2^j=0)) (fun v=>B-(intOf v).toNat)
 case atStart=>exact⟨0,rfl,by omega,hI (by rw[Nat.pow_zero,Nat.mod_one])⟩
 obtain⟨j,rfl,hj,N⟩:=hrel;have bm:j<B:=(by rw[←s.o];exact low_lt L.o N.o);have a:=hI (bit_r A n c (j:Int) l d E.o (by omega) (by omega) (by omega));rw[C.o]at a;have ax:=hI (show bitI V (j:Int)=V/2^j%2 by unfold bitI;rw[if_neg (by omega)];rfl);rw[ax.o]at a
 by_cases m:V/2^j%2=0
 ·
  rw[m]at a;have O:=hI (low_next N.o m);clear m;go_wp2_with fail;refine a.o.mono ?_;rintro e w' ⟨rfl,rfl⟩;go_wp2_with fail;refine⟨⟨j+1,by go_num,by omega,O⟩,?_⟩
  simp[intOf];omega
 have u:V/2^j%2=1:=(by generalize V/2^j=t at *;omega);rw[u]at a;have P:=hI (v2_bit N.o u);clear m u;go_wp2_with fail;refine a.o.mono ?_;rintro e w' ⟨rfl,rfl⟩;go_upto_region 8 with(fail);obtain⟨w2,p,Q,R⟩:=aX d 75 #[.b neg,.sn,.i (ex+(j:Int))];rw[←p];clear p;have az:=i.o.b9 Q;have a0:=D.o.t Q
 obtain⟨gd,S⟩:∃gd,d.heap.size=gd:=⟨_,rfl⟩
 rw[S]at R ⊢;have bn:w.heap.size<gd:=(by rw[←S];exact i.o.lt);have a1:gd<w2.heap.size:=R.o.lt;clear S Q a E i D;go_wp2_with fail
 try simp only[Value.i,Value.b,Value.l,Value.sn,Value.p]
 go_loopg [10] (B+32-j) (MadeRel w neg (ex+(j:Int)) gd V B j)
 case atStart=>exact⟨0,[],_,by go_num,by omega,by omega,hI rfl,hI ok_nil,hI ⟨rfl,.inl ⟨rfl,rfl⟩⟩,R,az,hI (by simp[val_nil,Nat.mod_one]),a0,a1⟩
 obtain⟨q,o,T,rfl,hk,hq,W,X,z,Y,r,ad,F,bp⟩:=hrel
 by_cases hst:j+32*q<B
 ·
  have hd:decide ((j:Int)+32*q<B)=true:=dT;go_wp2_with fail
  try simp only[Value.i,Value.b,Value.l,Value.sn,Value.p]
  go_loop [11,12] (fun x v=>∃kk:Nat,v= .int .i64 kk∧kk≤32∧x= .int .u32 ((V/2^(j+32*q)%2^kk:Nat):Int)) (fun _ v=>32-(intOf v).toNat)
  case atStart=>exact⟨0,rfl,by omega,by rw[Nat.pow_zero,Nat.mod_one];rfl⟩
  obtain⟨kk,rfl,bq,rfl⟩:=hrel
  by_cases hk32:kk<32
  ·
   have dk:decide ((kk:Int)<32)=true:=dT;have a:=hI (bit_r A n c ((j:Int)+32*q+kk) l wr (HA.o.below F.o) (by omega) (by omega) (by omega));rw[C.o]at a;have G:=hI (word_next V (j+32*q) kk);rw[show((j+32*q:Nat):Int)+kk=(j:Int)+32*q+kk by omega]at G
   obtain⟨b,m⟩:∃b,bitI V ((j:Int)+32*q+kk)=b:=⟨_,rfl⟩
   have u:b≤1:=(by rw[←m];exact bitI_le _ _);rw[m]at a G
   obtain⟨x,Z⟩:∃x,V/2^(j+32*q)%2^kk=x:=⟨_,rfl⟩
   have a4:x<2^kk:=(by rw[←Z];exact Nat.mod_lt _ (Nat.two_pow_pos _));have a5:=word_or a4 hk32 u;rw[Z]at G ⊢;clear m Z;go_wp2_with fail;refine a.o.mono ?_;rintro e w' ⟨rfl,rfl⟩;go_wp2_with fail;refine⟨⟨kk+1,by go_num,by omega,?_⟩,?_⟩
   ·
    rw[G.o,←a5,shl_small hk32 u]
   simp[intOf];omega
  have dk:decide ((kk:Int)<32)=false:=dF
  obtain rfl:kk=32:=by omega
  have ae:=hI (word_end V j q o W.o ad.o)
  obtain⟨M,hM⟩:∃M,V/2^(j+32*q)%2^32=M:=⟨_,rfl⟩
  have br:M<4294967296:=(by rw[←hM];exact Nat.mod_lt _ (by decide));rw[hM]at ae ⊢;clear hM hk32;obtain⟨i0,ti,ag,ah,ai⟩:=info_parts Tryz.infoU32;have bs:=F.o.size;have a7:=hI (show ok (o++[M])from ok_append.2 ⟨X.o,ok_cons.2 ⟨by unfold BB;omega,ok_nil⟩⟩);have pd:=Y.o.cell
  go_wp2_with (at_builtin;refine wpList_append_lies _ rfl _ _ _ rfl (gd+1) 157 i0 _ 1 4 Tryz.underlying73 ti ag ah ai rfl (by omega) T q (U o) rfl (by exact z.o.alloc _) ⟨wr.heap.size,0,none⟩ 1 1 [.int .u32 (M:Int)] rfl rfl (by exact World.news_of_block (cs:=#[.int .u32 (M:Int)]) (t:=157) (fr:=(0,0)) (heap_alloc_new wr _)) (by simp[Value.oneCell']) (by omega) (by unfold maxLen;omega) (by omega) (by simp;omega) (wr.heap.size+1) (by simp) ?_)
  intro g cap w3 hown hgrow hat hlt2
  have aj:some gd≠T.ownBlock:=fun e=>by have:=(z.o.lt gd e.symm).1;omega
  have ak:some w.heap.size≠T.ownBlock:=fun e=>by have:=(z.o.lt _ e.symm).1;omega
  have y:=hI ((Y.o.alloc (.cells #[.int .u32 (M:Int)] 157)).grown hgrow aj);have a9:=hI (show Below w.heap.size w w3 from(F.o.alloc (by omega) _).grown hgrow (by simp;omega) (fun k hk=>by have:=(z.o.lt k hk).1;omega));have bt:=y.o.cell;have bu:=y.o.frozen;have ba:=hI (show(w3.setCell ⟨gd,1,none⟩ (.l (some ⟨g,0,none⟩) (q+1) cap)).ownsRow (gd+1) tU 1 (.l (some ⟨g,0,none⟩) (q+1) cap) (q+1) (U (o++[M]))from ownsRow_setCell_below (by rw[U_append];exact hown) (Nat.lt_succ_self gd) _);have al:=hI (show Blk (w3.setCell ⟨gd,1,none⟩ (.l (some ⟨g,0,none⟩) (q+1) cap)) gd 75 #[.b neg,.l (some ⟨g,0,none⟩) (q+1) cap,.i (ex+(j:Int))]by rw[y.o.setCell_eq 1];exact y.o.put _);have bb:=hI (show Blk (w3.setCell ⟨gd,1,none⟩ (.l (some ⟨g,0,none⟩) (q+1) cap)) w.heap.size 75 #[.b false,.sn,.i 0]by rw[y.o.setCell_eq 1];exact((r.o.alloc (.cells #[.int .u32 (M:Int)] 157)).grown hgrow ak).far (by omega) _);have bc:=hI (show Below w.heap.size w (w3.setCell ⟨gd,1,none⟩ (.l (some ⟨g,0,none⟩) (q+1) cap))by rw[y.o.setCell_eq 1];exact a9.o.trans (putB_below _ _ _ _ (by omega)));have bd:gd<(w3.setCell ⟨gd,1,none⟩ (.l (some ⟨g,0,none⟩) (q+1) cap)).heap.size:=al.o.lt;have be:=hI (show(o++[M]).length=q+1 by rw[List.length_append,W.o];rfl);clear hown hgrow hat hlt2 ti ag ah ai aj ak;go_wp2
  go_roundg (B+32-(j+32*(q+1)))
  case measure=>omega
  case rel=>exact⟨q+1,o++[M],_,by go_num,rfl,by omega,be,a7,ba,al,bb,ae,bc,bd⟩
 have hd:decide ((j:Int)+32*q<B)=false:=dF;obtain⟨A',c',hu,ao⟩:=Nw.of_own z.o X.o;subst hu;have O:=hI ao.sl
 have bg:=hI (show o=limbs (od V)by
  have h1:od V=V/2^j:=P.o.2;have h2:blen V=v2 V+blen (od V):=blen_od L.o;rw[s.o,P.o.1]at h2
  have h3:val o=od V:=by
   rw[ad.o,←h1];exact Nat.mod_eq_of_lt (blen_lt (by omega))
  have h4:=limbs_same X.o (by
   rw[h3,W.o];have u1:=limbs_bits (n:=od V) (k:=q) (by omega)
   rcases Nat.lt_or_ge (limbs (od V)).length q with h | h
   ·
    have:=bits_limbs (n:=od V) (k:=q-1) (by omega)
    omega
   omega)
  rw[h3]at h4
  exact h4)
 have bj:=hI (show canon neg V ex=⟨neg,od V,ex+(j:Int)⟩by rw[canon_pos L.o,P.o.1]);clear ao;have pd:=Y.o.cell;have J:=r.o.cell;have au:wr.frozen? ⟨w.heap.size,0,none⟩=false:=r.o.frozen 0;have av:wr.frozen? ⟨w.heap.size,1,none⟩=false:=r.o.frozen 1;have aw:wr.frozen? ⟨w.heap.size,2,none⟩=false:=r.o.frozen 2;go_wp2;refine bodyPost_ret (v:= .agg #[.b neg,.l A' q c',.i (ex+(j:Int))]) (by simp[results,Tryz.results86,go_sem,J]) rfl ?_;rw[bj.o];refine⟨A',q,c',rfl,hI (store3_sl ?_ r.o noU3 _ _ _),hI (store3_below F.o r.o _ _ _ (Nat.le_refl _))⟩;rw[←bg.o];exact O.o
