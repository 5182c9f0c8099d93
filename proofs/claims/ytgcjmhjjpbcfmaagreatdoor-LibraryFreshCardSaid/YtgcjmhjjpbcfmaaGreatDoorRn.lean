import Derived.Test.YtgcjmhjjpbcfmaaGreatDoorQF
import Derived.Laws.AppendOwnNone
set_option linter.unusedVariables false
set_option maxHeartbeats 1000000
namespace Go.Fl.Dy
open Go.Fl.Nm
theorem and_one32(x:Nat)(h:x<4294967296):Go.bits .and .u32 (x:Int) 1=((x%2:Nat):Int):=by
 have e:=bv_and (BitVec.ofNat 32 x) 1#32;have h1:((BitVec.ofNat 32 x).toNat:Int)=(x:Int):=(by rw[BitVec.toNat_ofNat,Nat.mod_eq_of_lt (by omega)]);rw[h1]at e;refine Eq.trans e ?_;rw[BitVec.toNat_and,BitVec.toNat_ofNat,Nat.mod_eq_of_lt (by omega)]
 show((x&&& 1:Nat):Int)=_
 rw[Nat.and_one_is_mod]
end Go.Fl.Dy
namespace Go.Proofs.YtgcjmhjjpbcfmaaGreatDoor
open Go.RowKit Go.Fl Go.Fl.Nm Go.Fl.Dy
end Go.Proofs.YtgcjmhjjpbcfmaaGreatDoor
namespace Go.Fl.Dy
open Go.Fl.Nm
def bitI(v:Nat)(i:Int):Nat:=if i<0 then 0 else v/2^i.toNat%2
theorem bitI_le(v:Nat)(i:Int):bitI v i≤1:=by unfold bitI;split<;>omega
theorem bit_at{l:List Nat}{q r x:Nat}(h:ok l)(hx:l[q]? =some x)(hr:r<32):val l/2^(32*q+r)%2=x/2^r%2:=by
 have hq:q≤l.length:=by
  rcases Nat.lt_or_ge q l.length with h | h
  ·
   omega
  rw[List.getElem?_eq_none h]at hx;cases hx
 have h1:=val_split l q hq;rw[val_drop hx]at h1
 have h2:val (l.take q)<BB^q:=by
  have:=val_lt (ok_take h q)
  rwa [List.length_take,Nat.min_eq_left hq]at this
 have h3:val l/2^(32*q)=x+BB*val (l.drop (q+1)):=by
  rw[Nat.pow_mul,←BB_pow,h1,Nat.add_mul_div_left _ _ (Nat.pow_pos BB_pos),Nat.div_eq_of_lt h2,Nat.zero_add]
 rw[Nat.pow_add,←Nat.div_div_eq_div_mul,h3]
 have h4:BB=2^r*(2*2^(31-r)):=by
  rw[BB_pow,←Nat.pow_succ',←Nat.pow_add]
  congr 1;omega
 rw[h4,Nat.mul_assoc,Nat.add_mul_div_left _ _ (Nat.two_pow_pos _),Nat.mul_assoc,Nat.add_mul_mod_self_left]
theorem bit_out{l:List Nat}{i:Nat}(h:ok l)(hi:32*l.length≤i):val l/2^i%2=0:=by
 have h1:=val_lt h;rw[BB_pow,←Nat.pow_mul]at h1;have h2:2^(32*l.length)≤2^i:=Nat.pow_le_pow_right (by decide) hi;rw[Nat.div_eq_of_lt (by omega)]
theorem top_one{x k:Nat}(h:x<2^(k+1))(h1:x/2^k%2=1):blen x=k+1:=by
 have hx:x/2^k<2:=by
  rw[Nat.div_lt_iff_lt_mul (Nat.two_pow_pos _),←Nat.pow_succ'];exact h
 have h2:x/2^k=1:=by generalize x/2^k=t at *;omega
 have h3:2^k≤x:=by
  have:=Nat.div_mul_le_self x (2^k);rw[h2]at this;omega
 exact blen_unique (by simpa using h3) h (by have:=Nat.two_pow_pos k;omega)
theorem low_half{x k:Nat}(h:x<2^(k+1))(h1:x/2^k%2≠1):x<2^k:=by
 have hx:x/2^k<2:=by
  rw[Nat.div_lt_iff_lt_mul (Nat.two_pow_pos _),←Nat.pow_succ'];exact h
 have h2:x/2^k=0:=by generalize x/2^k=t at *;omega
 rcases Nat.lt_or_ge x (2^k)with h3 | h3
 ·
  exact h3
 have:=Nat.div_pos h3 (Nat.two_pow_pos k);omega
theorem and_bit(x k:Nat)(h:x<4294967296):Go.bits .and .u32 ((x:Int)/2^k) 1=((x/2^k%2:Nat):Int):=by
 have e:(x:Int)/2^k=((x/2^k:Nat):Int):=(by rw[Int.natCast_ediv,Int.natCast_pow];rfl);rw[e];exact and_one32 _ (Nat.lt_of_le_of_lt (Nat.div_le_self _ _) h)
theorem bits_found{a:List Nat}{i x k:Nat}(h:ok a)(hx:a[i]? =some x)(hz:∀y∈a.drop (i+1),y=0)(hk:x<2^(k+1))(h1:x/2^k%2=1):blen (val a)=32*i+k+1:=by
 have hl:i<a.length:=by
  rcases Nat.lt_or_ge i a.length with h | h
  ·
   exact h
  rw[List.getElem?_eq_none h]at hx;cases hx
 have h0:x≠0:=by rintro rfl;simp at h1
 have ht:tl a=i+1:=tl_unique (n:=i+1) hl hz (fun y _ hy=>by
  rw[show i+1-1=i by omega,hx]at hy;injection hy with hy
  rw[←hy];exact h0)
 have:=blen_val (x:=x) h (by omega) (by rw[ht];exact hx);rw[ht,top_one hk h1]at this
 omega
end Go.Fl.Dy
namespace Go.Proofs.YtgcjmhjjpbcfmaaGreatDoor
open Go.RowKit Go.Fl Go.Fl.Nm Go.Fl.Dy
theorem bits_r(A:Option Addr)(n c:Nat)(a:List Nat)(w:World)(ha:Sl w A n c a)(hn:n≤1000000):
 Calls Tryz.prog 84 #[.slice A n c] w fun e w'=>e= .returned (.int .i64 (blen (val a):Nat))∧w=w':=by
 have m:=hI ha;have r:=hI ha.len;clear ha
 go_in
 go_wp2
 go_loop [3] (fun i=>∃k:Nat,i= .int .i64 ((k:Int)-1)∧k≤n∧Hid (∀x∈a.drop k,x=0)) (fun i=>(intOf i+1).toNat)
 case atStart=>exact⟨n,rfl,by omega,hI (by rw[List.drop_eq_nil_of_le (by rw[r.o];omega)];simp)⟩
 obtain⟨k,rfl,C,d⟩:=hrel
 cases k with
 | zero=>
  rw[show((0:Nat):Int)-1= -1 by omega]
  have s:=hI (show blen (val a)=0 by
   rw[val_zero_of (by have:=d.o;rwa [List.drop_zero]at this)];rfl)
  go_wp2;go_ret
  exact⟨by rw[s.o];rfl,rfl⟩
 | succ i=>
  rw[show((i+1:Nat):Int)-1=i by omega];obtain⟨b,D,x,t,E,o,g,F⟩:=m.o.at_ (i:=i) (by omega);subst t;have p:=hI o;clear o;unfold BB at g;go_wp2
  go_loop [4] (fun v=>∃j:Nat,v= .int .i64 ((j:Int)-1)∧j≤32∧Hid (x<2^j)) (fun v=>(intOf v+1).toNat)
  case atStart=>exact⟨32,rfl,by omega,hI g⟩
  obtain⟨j,rfl,G,l⟩:=hrel
  cases j with
  | zero=>
   rw[show((0:Nat):Int)-1= -1 by omega]
   have u:=hI (show ∀x∈a.drop i,x=0 by
    rw[drop_at p.o];intro y hy
    rcases List.mem_cons.1 hy with rfl | hy
    ·
     have:=l.o;omega
    exact d.o y hy)
   go_wp2
   go_round
   case rel=>exact⟨i,rfl,by omega,u⟩
   case measure=>simp[intOf]
  | succ k=>
   rw[show((k+1:Nat):Int)-1=k by omega];have q:=and_bit x k g
   by_cases h1:x/2^k%2=1
   ·
    rw[h1]at q;have z:=hI (bits_found m.o.ok p.o d.o l.o h1);clear h1;go_wp2;go_ret;exact⟨by rw[z.o];rfl,rfl⟩
   have B:=hI (low_half l.o h1);rw[show x/2^k%2=0 by omega]at q;clear h1;go_wp2
   go_round
   case rel=>exact⟨k,rfl,by omega,B⟩
   case measure=>simp[intOf]
theorem bit_r(A:Option Addr)(n c:Nat)(i:Int)(l:List Nat)(w:World)(h:Sl w A n c l)(hn:n≤1000000)(hi1: -1000000000≤i)(hi2:i≤1000000000):
 Calls Tryz.prog 85 #[.l A n c,.i i] w fun e w'=>e= .returned (.i (bitI (val l) i:Nat))∧w=w':=by
 by_cases h0:i<0
 ·
  have m:decide (i<0)=true:=decide_eq_true h0;have a:=hI (show bitI (val l) i=0 by unfold bitI;rw[if_pos h0]);clear h h0
  go_in
  go_wp2;go_ret;exact⟨by rw[a.o];rfl,rfl⟩
 obtain⟨j,rfl⟩:∃j:Nat,i=(j:Int):=⟨i.toNat,by omega⟩
 have m:decide ((j:Int)<0)=false:=dF;have d:=hI (show bitI (val l) (j:Int)=val l/2^j%2 by unfold bitI;rw[if_neg h0];rfl);clear h0
 by_cases hout:32*n≤j
 ·
  have o:decide (32*(n:Int)≤j)=true:=dT;have a:=hI (show bitI (val l) (j:Int)=0 by rw[d.o];exact bit_out h.ok (by rw[h.len];exact hout));clear h hout
  go_in
  go_wp2;go_ret;exact⟨by rw[a.o];rfl,rfl⟩
 have o:decide (32*(n:Int)≤j)=false:=dF;obtain⟨b,r,x,p,q,g,k,s⟩:=h.at_ (i:=j/32) (by omega);subst p;unfold BB at k;have t:=and_bit x (j%32) k
 have a:=hI (show bitI (val l) (j:Int)=x/2^(j%32)%2 by
  rw[d.o];have:=bit_at h.ok g (Nat.mod_lt j (by decide:0<32))
  rwa [show 32*(j/32)+j%32=j by omega]at this)
 generalize x/2^(j%32)%2=y at *
 have u:y≤1:=(by rw[←a.o];exact bitI_le _ _);clear h g q
 go_in
 go_wp2;go_ret;exact⟨by rw[a.o];rfl,rfl⟩
end Go.Proofs.YtgcjmhjjpbcfmaaGreatDoor
namespace Go.Fl.Dy
open Go.Fl.Nm
theorem half_step(A j:Nat):A/2^j=2*(A/2^(j+1))+A/2^j%2:=by
 rw[Nat.pow_succ,←Nat.div_div_eq_div_mul]
 omega
end Go.Fl.Dy
namespace Go.Proofs.YtgcjmhjjpbcfmaaGreatDoor
open Go.RowKit Go.Fl Go.Fl.Nm Go.Fl.Dy
end Go.Proofs.YtgcjmhjjpbcfmaaGreatDoor
namespace Go.Fl.Dy
open Go.Fl.Nm
end Go.Fl.Dy
namespace Go.Proofs.YtgcjmhjjpbcfmaaGreatDoor
open Go.RowKit Go.Fl Go.Fl.Nm Go.Fl.Dy
end Go.Proofs.YtgcjmhjjpbcfmaaGreatDoor
namespace Go.Fl.Dy
open Go.Fl.Nm
theorem or_bit(x cc:Nat)(hx:x<4294967296)(hc:cc≤1):Go.bits .or .u32 (((2*x)%4294967296:Nat):Int) (cc:Int)=(((2*x)%4294967296+cc:Nat):Int):=by
 have:=bits_join .u32 32 (by decide) (fun n h0 h1=>by rw[IntKind.wrap_u32];omega) 1 (((2*x)%4294967296:Nat):Int) (cc:Int) (by omega) (by omega) (by omega) (by omega) (by omega) (by omega);rw[this];omega
theorem dbl_step{o a:List Nat}{i cc x:Nat}(hl:o.length=i)(hok:ok o)(hx:a[i]? =some x)(hxB:x<BB)(hc:cc≤1)(hv:val o+BB^i*cc=2*val (a.take i)):
 (o++[(2*x)%BB+cc]).length=i+1∧ok (o++[(2*x)%BB+cc])∧val (o++[(2*x)%BB+cc])+BB^(i+1)*(2*x/BB)=2*val (a.take (i+1)):=by
 have hlt:(2*x)%BB+cc<BB:=(by unfold BB at *;omega);refine⟨by simp[hl],ok_append.2 ⟨hok,ok_cons.2 ⟨hlt,ok_nil⟩⟩,?_⟩;rw[val_snoc,hl,val_take_succ hx,Nat.pow_succ,Nat.mul_assoc,Nat.mul_add,Nat.mul_add];have h3:BB^i*(BB*(2*x/BB))+BB^i*(2*x%BB)=BB^i*(2*x):=(by rw[←Nat.mul_add,Nat.div_add_mod]);have h4:2*(BB^i*x)=BB^i*(2*x):=(by rw[Nat.mul_left_comm])
 omega
end Go.Fl.Dy
namespace Go.Proofs.YtgcjmhjjpbcfmaaGreatDoor
open Go.RowKit Go.Fl Go.Fl.Nm Go.Fl.Dy
def DblRel(w:World)(n:Nat)(a:List Nat)(k:Nat)(ov cv iv:Value)(wr:World):Prop:=
  ∃(i cc:Nat) (o:List Nat),iv= .i i∧cv= .int .u32 cc∧cc≤1∧k=n-i∧i≤n∧Hid (o.length=i)∧Hid (ok o)∧Hid (wr.ownsRow w.heap.size tU 1 ov i (U o))∧
    Hid (val o+BB^i*cc=2*val (a.take i))∧Hid (Below w.heap.size w wr)
def SlN(N v:Nat)(w:World)(e:Ending)(w':World):Prop:=
  ∃(A:Option Addr) (n c:Nat) (l:List Nat),e= .returned (.l A n c)∧n≤N∧Hid (Sl w' A n c l)∧Hid (val l=v)∧Hid (Below w.heap.size w w')
theorem shifted_r(A:Option Addr)(n c:Nat)(a:List Nat)(w:World)(ha:Sl w A n c a)(hn:n≤1000):
 Calls Tryz.prog 82 #[.l A n c,.int .u64 0] w (SlN (n+1) (2*val a) w):=by
 have Y:=hI ha;have Z:=hI ha.len;clear ha
 go_in
 go_wp2
 go_loopg [5,6,7] n (DblRel w n a)
 case atStart=>exact⟨0,0,[],rfl,rfl,by omega,by omega,by omega,hI rfl,hI ok_nil,hI ⟨rfl,.inl ⟨rfl,rfl⟩⟩,hI (by simp[val_nil]),hI (Below.refl _ _)⟩
 obtain⟨i,d,o,rfl,rfl,N,rfl,hi,O,D,l,P,j⟩:=hrel
 by_cases hst:i<n
 ·
  have hd:decide ((i:Int)<n)=true:=dT;obtain⟨b,v,x,hA,Q,R,E,S⟩:=Y.o.at_ (i:=i) hst;subst hA;have T:=hI (dbl_step O.o D.o R E N P.o);unfold BB at E;have aj:wr.cell? ⟨b,v+i,none⟩=some (.int .u32 x):=j.o.cell (p:=⟨b,v+i,none⟩) Q▸S
  obtain⟨y,F⟩:∃y,(2*x)%4294967296=y:=⟨_,rfl⟩
  have V:=or_bit x d E N;rw[F]at V;have ak:(2*(x:Int))%4294967296=(y:Int):=(by omega);have al:((x:Int)*2)%4294967296=(y:Int):=(by omega);have ac:y+d<4294967296:=(by omega)
  have z:=hI (show(o++[y+d]).length=i+1∧ok (o++[y+d])∧val (o++[y+d])+BB^(i+1)*(x/2147483648)=2*val (a.take (i+1))by
   have B:=T.o;rw[show(2*x)%BB=y from F,show 2*x/BB=x/2147483648 by unfold BB;omega]at B
   exact B)
  have ad:x/2147483648≤1:=(by omega);obtain⟨G,m,q,r,s⟩:=info_parts Tryz.infoU32;have ae:=j.o.size;clear R F T
  obtain⟨M,W⟩:∃M,y+d=M:=⟨_,rfl⟩
  rw[W]at V z ac;clear W
  go_wp2_with (at_builtin;refine wpList_append_lies _ rfl _ _ _ rfl w.heap.size 157 G _ 1 4 Tryz.underlying73 m q r s rfl (by omega) u5 i (U o) rfl (by exact l.o.alloc _) ⟨wr.heap.size,0,none⟩ 1 1 [.int .u32 (M:Int)] rfl rfl (by exact World.news_of_block (cs:=#[.int .u32 (M:Int)]) (t:=157) (fr:=(0,0)) (heap_alloc_new wr _)) (by simp[Value.oneCell']) (by omega) (by unfold maxLen;omega) (by omega) (by simp;omega) (wr.heap.size+1) (by simp) ?_)
  intro g cap w3 hown hgrow hat hlt2;have H:=hI (show w3.ownsRow w.heap.size tU 1 (.l (some ⟨g,0,none⟩) (i+1) cap) (i+1) (U (o++[M]))by rw[U_append];exact hown);have C:=hI (show Below w.heap.size w w3 from(j.o.alloc (by omega) _).grown hgrow (by simp;omega) (fun k hk=>(l.o.lt k hk).1));have am:w3.cell? ⟨b,v+i,none⟩=some (.int .u32 x):=C.o.cell (p:=⟨b,v+i,none⟩) Q▸S;clear hown hgrow hat hlt2 m q r s;go_wp2
  go_roundg (n-(i+1))
  case measure=>omega
  case rel=>exact⟨i+1,x/2147483648,o++[M],by go_num,by simp,ad,rfl,by omega,hI z.o.1,hI z.o.2.1,H,hI z.o.2.2,C⟩
 have hd:decide ((i:Int)<n)=false:=dF
 obtain rfl:i=n:=by omega
 have X:=hI (show val o+BB^i*d=2*val a by
  have B:=P.o
  rwa [List.take_of_length_le (by rw[Z.o];omega)]at B)
 by_cases hc0:d=0
 ·
  subst hc0;obtain⟨A',c',I,u⟩:=Nw.of_own l.o D.o;subst I;have J:=hI u.sl;have L:=hI (show val o=2*val a by have:=X.o;rw[Nat.mul_zero,Nat.add_zero]at this;exact this);clear u hst
  go_wp2;go_ret;exact⟨_,_,_,_,rfl,by omega,J,L,j⟩
 obtain rfl:d=1:=by omega
 obtain⟨G,m,q,r,s⟩:=info_parts Tryz.infoU32;have ae:=j.o.size;have L:=hI (show val (o++[1])=2*val a by rw[val_snoc,O.o];exact X.o);have ah:=hI (show ok (o++[1])from ok_append.2 ⟨D.o,ok_cons.2 ⟨by unfold BB;omega,ok_nil⟩⟩);clear hst hc0
 go_wp2_with (at_builtin;refine wpList_append_lies _ rfl _ _ _ rfl w.heap.size 157 G _ 1 4 Tryz.underlying73 m q r s rfl (by omega) u5 i (U o) rfl (by exact l.o.alloc _) ⟨wr.heap.size,0,none⟩ 1 1 [.int .u32 ((1:Nat):Int)] rfl rfl (by exact World.news_of_block (cs:=#[.int .u32 ((1:Nat):Int)]) (t:=157) (fr:=(0,0)) (heap_alloc_new wr _)) (by simp[Value.oneCell']) (by omega) (by unfold maxLen;omega) (by omega) (by simp;omega) (wr.heap.size+1) (by simp) ?_)
 intro g cap w3 hown hgrow hat hlt2;have H:=hI (show w3.ownsRow w.heap.size tU 1 (.l (some ⟨g,0,none⟩) (i+1) cap) (i+1) (U (o++[1]))by rw[U_append];exact hown);have C:=hI (show Below w.heap.size w w3 from(j.o.alloc (by omega) _).grown hgrow (by simp;omega) (fun k hk=>(l.o.lt k hk).1));clear hown hgrow hat hlt2 m q r s;obtain⟨A',c',I,u⟩:=Nw.of_own H.o ah.o;injection I with hu1 hu2 hu3;subst hu1 hu3;have J:=hI u.sl;clear u;go_wp2;go_ret;exact⟨_,_,_,_,rfl,by omega,J,L,C⟩
end Go.Proofs.YtgcjmhjjpbcfmaaGreatDoor
namespace Go.Fl.Dy
open Go.Fl.Nm
theorem or_one(x:Nat)(hx:x<4294967296)(h2:x%2=0):Go.bits .or .u32 (x:Int) 1=((x+1:Nat):Int):=by
 have:=bits_join .u32 32 (by decide) (fun n h0 h1=>by rw[IntKind.wrap_u32];omega) 1 (x:Int) 1 (by omega) (by omega) (by omega) (by omega) (by omega) (by omega);rw[this];omega
theorem set_val{l:List Nat}{i x y:Nat}(hx:l[i]? =some x):val (l.set i y)+BB^i*x=val l+BB^i*y:=by
 have hi:i<l.length:=by
  rcases Nat.lt_or_ge i l.length with h | h
  ·
   exact h
  rw[List.getElem?_eq_none h]at hx;cases hx
 have h1:=val_split l i (by omega);have h2:=val_split (l.set i y) i (by rw[List.length_set];omega);rw[val_drop hx]at h1;rw[val_drop (x:=y) (by rw[List.getElem?_set_self hi]),List.take_set,List.drop_set_of_lt (by omega)]at h2;rw[List.set_eq_of_length_le (l:=l.take i) (by rw[List.length_take];omega)]at h2;rw[h1,h2]
 generalize val (l.drop (i+1))=r
 rw[Nat.mul_add,Nat.mul_add]
 omega
end Go.Fl.Dy
namespace Go.Proofs.YtgcjmhjjpbcfmaaGreatDoor
open Go.RowKit Go.Fl Go.Fl.Nm Go.Fl.Dy
theorem set_r(A:Option Addr)(n c:Nat)(l:List Nat)(w:World)(ha:Sl w A n c l)(hn:n≤1000)(h2:val l%2=0):
 Calls Tryz.prog 83 #[.l A n c] w (SlN (max n 1) (val l+1) w):=by
 have m:=hI ha;have D:=hI ha.len;have E:=ha.capMax;have S:=ha.cap;unfold maxLen at E;clear ha
 by_cases hn0:n=0
 ·
  subst hn0
  go_in
  go_wp2_with fail;have F:=hI (Sl.one (x:=1) (Blk.new w 157 #[.int .u32 ((1:Nat):Int)]) (by unfold BB;omega));have G:=hI (show val [1]=val l+1 by rw[(List.eq_nil_of_length_eq_zero D.o)];rfl);go_ret;exact⟨_,_,_,_,rfl,by omega,F,G,(hI (below_a1 w (.cells #[.int .u32 1] 157)))⟩
 have T:((n:Int)==0)=false:=(by rw[beq_eq_false_iff_ne];omega);obtain⟨b,H,x,I,V,o,q,W⟩:=m.o.at_ (i:=0) (by omega);subst I;have r:=hI o;unfold BB at q;have s:x%2=0:=(by rw[←val_mod m.o.ok o];exact h2);have X:=or_one x q s;have Y:x+1<4294967296:=(by omega);obtain⟨J,u,v,z,B⟩:=info_parts Tryz.infoU32;have L:=hI (show(w.alloc (.cells #[] tU)).ownsRow w.heap.size tU 1 (.l (some ⟨w.heap.size,0,none⟩) 0 0) 0 []from⟨rfl,.inr ⟨w.heap.size,0,#[],rfl,Nat.le_refl _,Blk.new _ _ _,Nat.le_refl _,by unfold maxLen;omega,rfl,rfl⟩⟩);clear o s h2
 go_in
 go_wp2_with (at_builtin;refine wpList_append_rd _ rfl _ _ _ rfl w.heap.size 157 J _ 1 4 Tryz.underlying73 u v z B rfl (by omega) (.l (some ⟨w.heap.size,0,none⟩) 0 0) 0 [] rfl (by exact L.o) (some ⟨b,H,none⟩) n c (by simp) (U l) rfl (by exact(m.o.rd.alloc (.cells #[] tU))) (U_one _) (by unfold maxLen;omega) (by omega) (by simp) ?_)
 intro v' w2 hown2 hgrow;have a:=hI (show w2.ownsRow w.heap.size tU 1 v' n (U l)by simpa using hown2)
 have C:=hI (((Below.refl w.heap.size w).alloc (Nat.le_refl _) (.cells #[] tU)).trans (below_of_grown hgrow (by
  intro g hg
  have:w.heap.size=g:=by simpa [Value.ownBlock]using hg
  omega) (by simp)))
 clear hown2 hgrow u v z B
 obtain⟨g,d,rfl⟩:∃g d,v'= .l (some ⟨g,0,none⟩) n d:=by
  rcases a.o.2 with⟨_,h⟩ | ⟨g,d,_,h,_⟩
  ·
   exact absurd h hn0
  exact⟨g,d,h⟩
 have Z:w2.cell? ⟨g,0,none⟩=some (.int .u32 (x:Int)):=by
  rw[a.o.cellAt (j:=0) (by omega)];exact U_at l 0 x r.o
 have q1:w2.frozen? ⟨g,0,none⟩=false:=a.o.frozenAt 0;have p:=a.o.stored 0 (.int .u32 ((x+1:Nat):Int))
 have ab:w.heap.size≤g:=by
  have:=(a.o.lt g (by simp[Value.ownBlock])).1;exact this
 have M:=hI (show(w2.setCell ⟨g,0,none⟩ (.int .u32 ((x+1:Nat):Int))).ownsRow w.heap.size tU 1 (.l (some ⟨g,0,none⟩) n d) n (U (l.set 0 (x+1)))by rw[U_set];exact p.1)
 have N:=hI (show Below w.heap.size w (w2.setCell ⟨g,0,none⟩ (.int .u32 ((x+1:Nat):Int)))from C.o.trans (below_of_grown p.2 (by
  intro k hk
  have:g=k:=by simpa using hk
  omega) C.o.size))
 have O:=hI (show val (l.set 0 (x+1))=val l+1 by
  have:=set_val (y:=x+1) r.o;rw[Nat.pow_zero,Nat.one_mul,Nat.one_mul]at this
  omega)
 have P:=hI (ok_set m.o.ok 0 (x+1) (by unfold BB;omega));clear p;go_wp2;go_ret;obtain⟨A',c',Q,R⟩:=Nw.of_own M.o P.o;injection Q with hu1 hu2 hu3;subst hu1 hu3;exact⟨_,_,_,_,rfl,by omega,hI R.sl,O,N⟩
def NextRel(w:World)(g n cap:Nat)(l:List Nat)(k:Nat)(iv:Value)(wr:World):Prop:=
  ∃(i:Nat) (o:List Nat),iv= .i i∧k=n-i∧i≤n∧Hid (o.length=n)∧Hid (ok o)∧Hid (wr.ownsRow w.heap.size tU 1 (.l (some ⟨g,0,none⟩) n cap) n (U o))∧Hid (val o+BB^i=val l+1)∧Hid (Below w.heap.size w wr)
theorem next_r(b off n c:Nat)(l:List Nat)(w:World)(ha:Sl w (some ⟨b,off,none⟩) n c l)(hn:n≤1000)(hn0:0<n):
 Calls Tryz.prog 87 #[.l (some ⟨b,off,none⟩) n c] w (SlN (n+1) (val l+1) w):=by
 have O:=hI ha;have P:=hI ha.len;have Q:=ha.capMax;have ae:=ha.cap;unfold maxLen at Q;clear ha;obtain⟨D,r,s,u,v⟩:=info_parts Tryz.infoU32;have R:=hI (show(w.alloc (.cells #[] tU)).ownsRow w.heap.size tU 1 (.l (some ⟨w.heap.size,0,none⟩) 0 0) 0 []from⟨rfl,.inr ⟨w.heap.size,0,#[],rfl,Nat.le_refl _,Blk.new _ _ _,Nat.le_refl _,by unfold maxLen;omega,rfl,rfl⟩⟩)
 go_in
 go_wp2_with (at_builtin;refine wpList_append_rd _ rfl _ _ _ rfl w.heap.size 157 D _ 1 4 Tryz.underlying73 r s u v rfl (by omega) (.l (some ⟨w.heap.size,0,none⟩) 0 0) 0 [] rfl (by exact R.o) (some ⟨b,off,none⟩) n c (by simp) (U l) rfl (by exact(O.o.rd.alloc (.cells #[] tU))) (U_one _) (by unfold maxLen;omega) (by omega) (by simp) ?_)
 intro v' w2 hown2 hgrow;have E:=hI (show w2.ownsRow w.heap.size tU 1 v' n (U l)by simpa using hown2)
 have S:=hI (((Below.refl w.heap.size w).alloc (Nat.le_refl _) (.cells #[] tU)).trans (below_of_grown hgrow (by
  intro g hg
  have:w.heap.size=g:=by simpa [Value.ownBlock]using hg
  omega) (by simp)))
 clear hown2 hgrow r s u v
 obtain⟨g,a,rfl⟩:∃g a,v'= .l (some ⟨g,0,none⟩) n a:=by
  rcases E.o.2 with⟨_,h⟩ | ⟨g,a,_,h,_⟩
  ·
   omega
  exact⟨g,a,h⟩
 have af:w.heap.size≤g:=(E.o.lt g (by simp[Value.ownBlock])).1;have T:=hI O.o.ok;go_wp2
 go_loopg [4] n (NextRel w g n a l)
 case atStart=>exact⟨0,l,rfl,rfl,by omega,P,T,E,hI (by rw[Nat.pow_zero]),S⟩
 obtain⟨i,o,rfl,rfl,hi,z,C,p,F,q⟩:=hrel
 by_cases hst:i<n
 ·
  have V:decide ((i:Int)<n)=true:=dT
  obtain⟨x,G⟩:∃x,o[i]? =some x:=⟨_,List.getElem?_eq_getElem (by rw[z.o];exact hst)⟩
  have ah:x<4294967296:=ok_at C.o G;have H:=hI G;clear G
  have q0:wr.cell? ⟨g,i,none⟩=some (.int .u32 (x:Int)):=by
   rw[p.o.cellAt (j:=i) (by omega)];exact U_at o i x H.o
  have q1:wr.frozen? ⟨g,i,none⟩=false:=p.o.frozenAt i
  by_cases hx1:x=4294967295
  ·
   have d:=p.o.stored i (.int .u32 (0));have m:=hI (show(wr.setCell ⟨g,i,none⟩ (.int .u32 (0))).ownsRow w.heap.size tU 1 (.l (some ⟨g,0,none⟩) n a) n (U (o.set i (0)))by rw[U_set];exact d.1)
   have B:=hI (show Below w.heap.size w (wr.setCell ⟨g,i,none⟩ (.int .u32 (0)))from q.o.trans (below_of_grown d.2 (by
    intro k hk
    have:g=k:=by simpa using hk
    omega) q.o.size))
   have W:(wr.setCell ⟨g,i,none⟩ (.int .u32 (0))).cell? ⟨g,i,none⟩=some (.int .u32 (0)):=by
    rw[m.o.cellAt (j:=i) (by omega)];exact U_at _ i (0) (by rw[List.getElem?_set_self (by rw[z.o];exact hst)])
   have I:=hI (ok_set C.o i (0) (by unfold BB;omega));have X:=hI (show(o.set i (0)).length=n by rw[List.length_set];exact z.o);clear d
   have J:=hI (show val (o.set i 0)+BB^(i+1)=val l+1 by
    have L:=(set_val (y:=0) H.o);have Y:=F.o;have Z:BB=x+1:=(by unfold BB;omega);rw[Nat.mul_zero,Nat.add_zero]at L
    have h3:BB^(i+1)=BB^i*x+BB^i:=by
     rw[Nat.pow_succ];conv=>lhs;arg 2;rw[Z]
     rw[Nat.mul_add,Nat.mul_one]
    omega)
   subst hx1;go_wp2
   go_roundg (n-(i+1))
   case measure=>omega
   case rel=>exact⟨i+1,o.set i 0,by go_num,rfl,by omega,X,I,m,J,B⟩
  have al:x+1<4294967296:=(by omega);have am:((x:Int)+1!=0)=true:=(by rw[bne_iff_ne];omega);have d:=p.o.stored i (.int .u32 ((x:Int)+1));have m:=hI (show(wr.setCell ⟨g,i,none⟩ (.int .u32 ((x:Int)+1))).ownsRow w.heap.size tU 1 (.l (some ⟨g,0,none⟩) n a) n (U (o.set i (x+1)))by rw[U_set];exact d.1)
  have B:=hI (show Below w.heap.size w (wr.setCell ⟨g,i,none⟩ (.int .u32 ((x:Int)+1)))from q.o.trans (below_of_grown d.2 (by
   intro k hk
   have:g=k:=by simpa using hk
   omega) q.o.size))
  have W:(wr.setCell ⟨g,i,none⟩ (.int .u32 ((x:Int)+1))).cell? ⟨g,i,none⟩=some (.int .u32 ((x:Int)+1)):=by
   rw[m.o.cellAt (j:=i) (by omega)];exact U_at _ i (x+1) (by rw[List.getElem?_set_self (by rw[z.o];exact hst)])
  have I:=hI (ok_set C.o i (x+1) (by unfold BB;omega));clear d
  have J:=hI (show val (o.set i (x+1))=val l+1 by
   have L:=(set_val (y:=x+1) H.o);have Y:=F.o;rw[Nat.mul_add,Nat.mul_one]at L
   omega)
  clear hx1;go_wp2;go_ret;obtain⟨A',c',M,N⟩:=Nw.of_own m.o I.o;injection M with hu1 hu2 hu3;subst hu1 hu3;exact⟨_,_,_,_,rfl,by omega,hI N.sl,J,B⟩
 have V:decide ((i:Int)<n)=false:=dF
 obtain rfl:i=n:=by omega
 obtain⟨D,r,s,u,v⟩:=info_parts Tryz.infoU32;have an:=q.o.size;have ac:=hI (show val (o++[1])=val l+1 by rw[val_snoc,z.o,Nat.mul_one];exact F.o);have ad:=hI (show ok (o++[1])from ok_append.2 ⟨C.o,ok_cons.2 ⟨by unfold BB;omega,ok_nil⟩⟩);clear hst
 go_wp2_with (at_builtin;refine wpList_append_lies _ rfl _ _ _ rfl w.heap.size 157 D _ 1 4 Tryz.underlying73 r s u v rfl (by omega) (.l (some ⟨g,0,none⟩) i a) i (U o) rfl (by exact p.o.alloc _) ⟨wr.heap.size,0,none⟩ 1 1 [.int .u32 1] rfl rfl (by exact World.news_of_block (cs:=#[.int .u32 1]) (t:=157) (fr:=(0,0)) (heap_alloc_new wr _)) (by simp[Value.oneCell']) (by omega) (by unfold maxLen;omega) (by omega) (by simp;omega) (wr.heap.size+1) (by simp) ?_)
 intro g' cap' w3 hown hgrow hat hlt2;have m:=hI (show w3.ownsRow w.heap.size tU 1 (.l (some ⟨g',0,none⟩) (i+1) cap') (i+1) (U (o++[1]))by rw[U_append];exact hown);have B:=hI (show Below w.heap.size w w3 from(q.o.alloc (by omega) _).grown hgrow (by simp;omega) (fun k hk=>(p.o.lt k hk).1));clear hown hgrow hat hlt2 r s u v;go_wp2;go_ret;obtain⟨A',c',M,N⟩:=Nw.of_own m.o ad.o;injection M with hu1 hu2 hu3;subst hu1 hu3;exact⟨_,_,_,_,rfl,by omega,hI N.sl,ac,B⟩
