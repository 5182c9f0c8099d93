import Derived.Test.YtgcjmhjjpbcfmaaGreatDoorQD
import Derived.Lib.LazyBuf
set_option linter.unusedVariables false
set_option maxHeartbeats 1600000
set_option maxRecDepth 100000
namespace Go.Fl.Nm
open Go.RowKit Go.Fl
theorem or_join64b(x y:Nat)(hx:x<4294967296)(hy:y<4294967296):bits .or .u64 (x:Int) ((y:Int)*4294967296)=(x:Int)+y*4294967296:=by
 have h:=or_join64 (y*4294967296) x (by omega) (by omega) hx
 have hb:=fun a b (ha:a<2^64) (hb:b<2^64)=>(bits_nat .u64 64 (by decide) (fun n h0 h1=>by simp[IntKind.wrap,IntKind.bits,IntKind.signed];omega) a b ha hb).2
 have e:(y:Int)*4294967296=((y*4294967296:Nat):Int):=(by omega);rw[e,hb x (y*4294967296) (by omega) (by omega),Nat.or_comm,←hb (y*4294967296) x (by omega) (by omega),h]
 omega
theorem pow_split(n:Nat):2^n=BB^(n/32)*2^(n%32):=by
 rw[BB_pow,←Nat.pow_mul,←Nat.pow_add,Nat.div_add_mod]
theorem BB_dvd(s:Nat)(hs:s<32):∃c,BB=2^s*c:=⟨2^(32-s),by rw[←Nat.pow_add,BB_pow];congr 1;omega⟩
theorem shr_limb(x y v s:Nat)(hs:s<32)(hx:x<BB):(x+BB*(y+BB*v))/2^s=((x+y*BB)/2^s)%BB+BB*((y+BB*v)/2^s):=by
 obtain⟨c,hc⟩:=BB_dvd s hs
 have hp:0<2^s:=Nat.two_pow_pos s
 have h1:(x+BB*(y+BB*v))/2^s/BB=(y+BB*v)/2^s:=by
  rw[Nat.div_div_eq_div_mul,Nat.mul_comm (2^s) BB,←Nat.div_div_eq_div_mul,Nat.add_mul_div_left _ _ BB_pos,Nat.div_eq_of_lt hx,Nat.zero_add]
 have h2:(x+BB*(y+BB*v))/2^s%BB=((x+y*BB)/2^s)%BB:=by
  have:x+BB*(y+BB*v)=x+y*BB+2^s*(BB*(c*v)):=by
   rw[Nat.mul_add,Nat.mul_comm BB y,Nat.add_assoc]
   congr 2
   calc BB*(BB*v)=(2^s*c)*(BB*v):=by rw[←hc]
    _=2^s*(BB*(c*v)):=by rw[Nat.mul_assoc,Nat.mul_left_comm c BB v]
  rw[this,Nat.add_mul_div_left _ _ hp,Nat.add_mul_mod_self_left]
 have:=Nat.mod_add_div ((x+BB*(y+BB*v))/2^s) BB
 rw[h1,h2]at this
 exact this.symm
end Go.Fl.Nm
namespace Go.Proofs.YtgcjmhjjpbcfmaaGreatDoor
open Go.RowKit Go.Fl Go.Fl.Nm
theorem shr_cast(q y s:Nat):(((q+y*BB)/2^s%BB:Nat):Int)=((q:Int)+y*4294967296)/2^s%4294967296:=by
 unfold BB;simp
def ShrRel(w:World)(g n s:Nat)(a:List Nat)(k:Nat)(iv:Value)(wr:World):Prop:=
  ∃(i:Nat) (l:List Nat),iv= .i i∧i≤n∧k=n-i∧Hid (l.length=n)∧Hid (ok l)∧Hid (Blk wr g tU (UA l))∧
    Hid (val l+BB^i*(val (a.drop i)/2^s)=val a/2^s)∧Hid (∀j,i≤j→j<n→l[j]? =some 0)∧Hid (Below w.heap.size w wr)
theorem shr_step{l a:List Nat}{i n s x y v:Nat}(hl:l.length=n)(hok:ok l)(hi:i<n)(hs:s<32)(hv:val l+BB^i*(val (a.drop i)/2^s)=val a/2^s)
 (hz:∀j,i≤j→j<n→l[j]? =some 0) (hx:a[i]? =some x) (hxB:x<BB) (hy:val (a.drop (i+1))=y+BB*v):
 (l.set i (((x+y*BB)/2^s)%BB)).length=n∧ok (l.set i (((x+y*BB)/2^s)%BB))∧
  val (l.set i (((x+y*BB)/2^s)%BB))+BB^(i+1)*(val (a.drop (i+1))/2^s)=val a/2^s∧(∀j,i+1≤j→j<n→(l.set i (((x+y*BB)/2^s)%BB))[j]? =some 0):=by
 refine⟨by simp[hl],ok_set hok _ _ (Nat.mod_lt _ BB_pos),?_,fun j h1 h2=>by rw[at_set_ne _ (by omega)];exact hz j (by omega) h2⟩;rw[val_set0 _ (hz i (by omega) hi),←hv,val_drop hx,hy,shr_limb x y v s hs hxB,Nat.pow_succ,Nat.mul_add,Nat.mul_assoc]
 omega
theorem shr_any(A:Option Addr)(n c p:Nat)(a:List Nat)(w:World)(ha:Sl w A n c a)(hn:n≤100000)(hp:p≤100000000):
 Calls Tryz.prog 191 #[.l A n c,.i p] w (Fv n (val a/2^p) w):=by
 have J:=hI ha;have ah:tl a≤n:=(by rw[←ha.len];exact tl_le a);have ai:=ha.cap;have Y:=ha.capMax;unfold maxLen at Y;have r:=hI (ha.cut (m:=tl a) (c':=c) (by omega) (by have:=ha.cap;omega) ha.capMax ha.nil);have Z:=hI (val_trim a);have aa:=hI (val_lt_tl ha.ok);clear ha
 generalize hx:tl a=x at *
 have M:=hI hx;clear hx;have N:=hI (pow_split p)
 generalize hk:p/32=k at *
 generalize hs:p%32=s at *
 have O:s<32:=(by omega);have aj:(p:Int)/32=k:=(by omega);have ak:(p:Int)%32=s:=(by omega);clear hk hs
 by_cases hkx:x≤k
 ·
  have t:=hI (show val a/2^p=0 by
   apply Nat.div_eq_of_lt
   rw[N.o];have g:=aa.o;have u:BB^x≤BB^k:=Nat.pow_le_pow_right BB_pos hkx;have h3:BB^k*1≤BB^k*2^s:=Nat.mul_le_mul_left _ (Nat.two_pow_pos s)
   omega)
  go_in
  go_wp2_with fail;refine(trim_any A n c a w J.o).mono ?_;rintro e w1 ⟨rfl,rfl⟩;rw[M.o];go_wp2;go_ret;exact⟨none,0,0,[],rfl,hI (Nw.none_ _ _ _),hI (by rw[t.o];rfl),by omega,hI (Below.refl _ _)⟩
 obtain⟨b1,v,rfl,P⟩:∃b1 v,A=some ⟨b1,v,none⟩∧b1<w.heap.size:=by
  obtain⟨b,ab,_,z,hb,_⟩:=r.o.at_ (i:=0) (by omega);exact⟨_,_,z,hb⟩
 obtain⟨L,rfl⟩:∃L,x=k+L:=⟨x-k,by omega⟩
 have hL:0<L:=(by omega);clear hkx;obtain⟨l,D⟩:=eX ((a.take (k+L)).drop k);have Q:=hI (show l.length=L by rw[D,List.length_drop,r.o.len];omega)
 have ad:=hI (show val a/2^p=val l/2^s by
  rw[N.o,←Nat.div_div_eq_div_mul]
  congr 1
  have g:=val_split (a.take (k+L)) k (by rw[r.o.len];omega);rw[Z.o,←D]at g;have u:=val_lt (ok_take r.o.ok k);rw[List.length_take,r.o.len,Nat.min_eq_left (by omega)]at u
  rw[g,Nat.add_mul_div_left _ _ (Nat.pow_pos BB_pos),Nat.div_eq_of_lt u,Nat.zero_add])
 have R:=hI (show ∀i,i<L→∃q,l[i]? =some q∧q<BB∧w.cell? ⟨b1,v+k+i,none⟩=some (.int .u32 q)from fun i hi=>by
  obtain⟨b,ab,q,z,_,E,o,ae⟩:=r.o.at_ (i:=k+i) (by omega);injection z with z;injection z with g u;subst g u
  exact⟨q,by rw[D,List.getElem?_drop];exact E,o,by rw[Nat.add_assoc];exact ae⟩)
 clear D;have af:=make_u32 L L (L:Int) (L:Int) (by omega) (by omega) (by omega) (by omega);have ag:=hI ((Below.refl w.heap.size w).alloc (Nat.le_refl _) (.cells (UA (zeros L)) tU));have an:decide (k+L≤k)=false:=(by simp;omega)
 go_in
 go_wp2_with fail;refine(trim_any _ n c a w J.o).mono ?_;rintro e w1 ⟨rfl,rfl⟩;rw[M.o];go_wp2;clear af
 go_loopg [25] L (ShrRel w w.heap.size L s l)
 case atStart=>exact⟨0,zeros L,rfl,by omega,rfl,hI (zeros_len _),hI (ok_zeros _),(hI (Blk.new w tU (UA (zeros L)))),hI (by simp[zeros,val_zeros]),hI (fun j _ h=>zeros_at _ j h),ag⟩
 obtain⟨i,F,rfl,hi,rfl,G,H,B,t,I,C⟩:=hrel
 by_cases hin:i<L
 ·
  obtain⟨q,E,o,S⟩:=R.o i hin;have ao:wr.cell? ⟨b1,v+k+i,none⟩=some (.int .u32 q):=(C.o.cell (p:=⟨b1,_,none⟩) P).trans S;have T:=hI E;clear S E;have ap:wr.cell? ⟨w.heap.size,i,none⟩=some (.int .u32 (0:Nat)):=blkU_cell B.o (I.o i (by omega) (by omega));have aq:wr.frozen? ⟨w.heap.size,i,none⟩=false:=B.o.frozen i
  by_cases hin2:i+1<L
  ·
   obtain⟨y,U,V,W⟩:=R.o (i+1) hin2;have ar:wr.cell? ⟨b1,v+k+(i+1),none⟩=some (.int .u32 y):=(C.o.cell (p:=⟨b1,_,none⟩) P).trans W;have d:=hI (shr_step G.o H.o hin O t.o I.o T.o o (val_drop U));clear W U;unfold BB at o V;have au:=or_join64b q y o V;go_wp2
   go_roundg (L-(i+1))
   case measure=>omega
   refine⟨i+1,F.set i ((q+y*BB)/2^s%BB),by go_num,by omega,rfl,hI d.o.1,hI d.o.2.1,hI ?_,hI d.o.2.2.1,hI d.o.2.2.2,hI (C.o.setCell (Nat.le_refl _) _)⟩;have:=blkU_set B.o i ((q+y*BB)/2^s%BB);rw[shr_cast]at this;exact this
  have X:val (l.drop (i+1))=0+BB*0:=by
   rw[List.drop_eq_nil_of_le (by rw[Q.o];omega)];simp[val_nil]
  have d:=hI (shr_step G.o H.o hin O t.o I.o T.o o X);clear X;unfold BB at o;have av:decide ((i:Int)+1<L)=false:=(by simp;omega);go_wp2
  go_roundg (L-(i+1))
  case measure=>omega
  refine⟨i+1,F.set i ((q+0*BB)/2^s%BB),by go_num,by omega,rfl,hI d.o.1,hI d.o.2.1,hI ?_,hI d.o.2.2.1,hI d.o.2.2.2,hI (C.o.setCell (Nat.le_refl _) _)⟩;have:=blkU_set B.o i ((q+0*BB)/2^s%BB);rw[shr_cast]at this
  simpa using this
 obtain rfl:i=L:=by omega
 go_wp2;go_ret;refine⟨_,_,_,F,rfl,hI (Nw.of_blk B.o H.o (Nat.le_refl _) G.o (by unfold maxLen;omega)),hI ?_,by omega,C⟩;have g:=t.o;rw[List.drop_eq_nil_of_le (by rw[Q.o];omega)]at g;rw[ad.o,←g]
 simp[val_nil]
end Go.Proofs.YtgcjmhjjpbcfmaaGreatDoor
namespace Go.Fl.Nm
open Go.RowKit Go.Fl
theorem two_pow_le31(s:Nat)(h:s<32):2^s≤2147483648:=by
 have:2^s≤2^31:=Nat.pow_le_pow_right (by omega) (by omega)
 simpa using this
theorem shl_lt(x s cc:Nat)(hx:x<BB)(hs:s<32)(hc:cc<2^s):x*2^s+cc<BB*2^s:=by
 have:(x+1)*2^s≤BB*2^s:=Nat.mul_le_mul_right _ hx;rw[Nat.add_mul]at this
 omega
theorem or_shl(x s cc:Nat)(hx:x<4294967296)(hs:s<32)(hc:cc<2^s):bits .or .u64 ((x:Int)*2^s) (cc:Int)=(x:Int)*2^s+cc:=by
  have h1:=shl_lt x s cc hx hs hc;have h2:=two_pow_le31 s hs;have e:(x:Int)*2^s=((x*2^s:Nat):Int):=(by simp);have h3:BB*2^s≤BB*2147483648:=Nat.mul_le_mul_left _ h2;unfold BB at h1 h3;rw[e]
  have:=bits_join .u64 64 (by decide) (fun n h0 h1=>by simp[IntKind.wrap,IntKind.bits,IntKind.signed];omega) s ((x*2^s:Nat):Int) cc (by omega)
    (by
      have:(2:Int)^s=((2^s:Nat):Int):=by simp
      rw[this,←Int.natCast_emod,Nat.mul_mod_left];rfl) (by omega) (by omega)
    (by
      have:(2:Int)^s=((2^s:Nat):Int):=by simp
      rw[this];omega) (by omega)
  exact this
theorem Nw.of_own{w:World}{t:TypeId}{base n:Nat}{v:Value}{l:List Nat}(h:w.ownsRow base t 1 v n (U l))(hok:ok l):∃A c,v= .l A n c∧Nw w t base A n c l:=by
 have hl:l.length=n:=(by have:=h.1;rw[U_len]at this;omega);obtain⟨A,c,hv,hrd,hnc,hcm⟩:=Rd.of_own h
 rcases h.2 with⟨h1,h2⟩ | ⟨g,cap,cur,h1,hb,hg,_,_,_,_⟩
 ·
  rw[h1]at hv;injection hv with h3 h4 h5;subst h3 h4 h5;exact⟨none,0,h1,⟨hl,hok,by omega,hcm,fun _=>rfl,hrd⟩,fun h=>absurd h (by omega)⟩
 rw[h1]at hv;injection hv with h3 h4 h5;subst h3 h5;exact⟨_,_,h1,⟨hl,hok,hnc,hcm,fun h=>(by cases h),hrd⟩,fun _=>⟨g,cur,rfl,hb,hg⟩⟩
end Go.Fl.Nm
namespace Go.Proofs.YtgcjmhjjpbcfmaaGreatDoor
open Go.RowKit Go.Fl Go.Fl.Nm
theorem below_of_grown{B:Nat}{w w':World}{row:Option Nat}(h:w.grownBy w' row)(hr:∀g,row=some g→B≤g)(hB:B≤w.heap.size):Below B w w':=
 ⟨h.os,h.tape,h.output,h.size,fun k hk=>h.block k (by omega) (fun e=>by have:=hr k e.symm;omega)⟩
def ShlRel(w:World)(k x s:Nat)(a:List Nat)(m:Nat)(vv cv iv:Value)(wr:World):Prop:=
  ∃(i cc:Nat) (o:List Nat),iv= .i i∧cv= .int .u64 cc∧cc<2^s∧i≤x∧m=x-i∧Hid (o.length=k+i)∧Hid (ok o)∧vv= .l (some ⟨w.heap.size,0,none⟩) (k+i) (k+x+1)∧Hid (wr.ownsRow w.heap.size tU 1 (.l (some ⟨w.heap.size,0,none⟩) (k+i) (k+x+1)) (k+i) (U o))∧
    Hid (val o+BB^(k+i)*cc=BB^k*(2^s*val (a.take i)))∧Hid (Below w.heap.size w wr)
theorem shl_step{o a:List Nat}{i k x s cc:Nat}(hl:o.length=k+i)(hok:ok o)(hv:val o+BB^(k+i)*cc=BB^k*(2^s*val (a.take i)))(ha:val (a.take (i+1))=val (a.take i)+BB^i*x):
 (o++[(x*2^s+cc)%BB]).length=k+(i+1)∧ok (o++[(x*2^s+cc)%BB])∧val (o++[(x*2^s+cc)%BB])+BB^(k+(i+1))*((x*2^s+cc)/BB)=BB^k*(2^s*val (a.take (i+1))):=by
 refine⟨by simp[hl];omega,ok_append.2 ⟨hok,ok_cons.2 ⟨Nat.mod_lt _ BB_pos,ok_nil⟩⟩,?_⟩;rw[val_snoc,hl,←Nat.add_assoc k i 1,Nat.pow_succ BB (k+i),Nat.mul_assoc (BB^(k+i)),Nat.add_assoc,←Nat.mul_add,Nat.mod_add_div,ha,Nat.mul_add (2^s),Nat.mul_add (BB^k),←hv,Nat.mul_add,Nat.pow_add,Nat.mul_comm x]
 have:BB^k*BB^i*(2^s*x)=BB^k*(2^s*(BB^i*x)):=by rw[Nat.mul_assoc,Nat.mul_left_comm (BB^i)]
 omega
theorem shl_end{o a:List Nat}{k x s p cc:Nat}(hl:o.length=k+x)(hok:ok o)(hv:val o+BB^(k+x)*cc=BB^k*(2^s*val a))(hp:2^p=BB^k*2^s)(hc:cc<BB):
 ok (o++[cc])∧val (o++[cc])=val a*2^p:=by
 refine⟨ok_append.2 ⟨hok,ok_cons.2 ⟨hc,ok_nil⟩⟩,?_⟩;rw[val_snoc,hl,hv,hp,Nat.mul_comm (val a),Nat.mul_assoc]
def ShlPost(N v:Nat)(w:World)(e:Ending)(w':World):Prop:=
  ∃l:List Nat,e= .returned (.l (some ⟨w.heap.size,0,none⟩) N N)∧Hid (Blk w' w.heap.size tU (UA l))∧Hid (l.length=N)∧Hid (ok l)∧Hid (val l=v)∧Hid (Below w.heap.size w w')
theorem blk_of_own{w:World}{g n base:Nat}{l:List Nat}(h:w.ownsRow base tU 1 (.l (some ⟨g,0,none⟩) n n) n (U l)):Blk w g tU (UA l):=by
 rcases h.2 with⟨h1,_⟩ | ⟨g',cap,cur,h1,_,hg,_,_,hc,ht⟩
 ·
  cases h1
 injection h1 with h1 h2 h3;injection h1 with h1;injection h1 with h1;subst h1 h3;rw[List.take_of_length_le (by simp;omega)]at ht;unfold Blk UA;rw[←ht]
 simpa using hg
theorem shl_exact(A:Option Addr)(n c p:Nat)(a:List Nat)(w:World)(ha:Sl w A n c a)(hn:n≤100000)(hp:p≤1000000):
 Calls Tryz.prog 226 #[.l A n c,.i p] w (ShlPost (p/32+tl a+1) (val a*2^p) w):=by
 have W:=hI ha;have aj:tl a≤n:=(by rw[←ha.len];exact tl_le a);have G:=hI (ha.cut (m:=tl a) (c':=c) (by omega) (by have:=ha.cap;omega) ha.capMax ha.nil);have X:=hI (val_trim a);clear ha
 generalize hx:tl a=x at *
 have Y:=hI hx;clear hx;have Z:=hI (pow_split p)
 generalize hk:p/32=k at *
 generalize hs:p%32=s at *
 have j:s<32:=(by omega);have ak:k≤40000:=(by omega);have al:(p:Int)/32=k:=(by omega);have am:(p:Int)%32=s:=(by omega);clear hk hs;have aa:=make_u32 k (k+x+1) (k:Int) ((k:Int)+x+1) (by omega) (by omega) (by omega) (by omega)
 go_in
 go_wp2_with fail;refine(trim_any A n c a w W.o).mono ?_;rintro e w1 ⟨rfl,rfl⟩;rw[Y.o];go_wp2_with fail;clear aa
 have ab:=hI (show(w.alloc (.cells (UA (zeros (k+x+1))) tU)).ownsRow w.heap.size tU 1 (.l (some ⟨w.heap.size,0,none⟩) k (k+x+1)) k (U (zeros k))from
  ⟨by rw[U_len,zeros_len];omega,.inr ⟨w.heap.size,k+x+1,UA (zeros (k+x+1)),rfl,Nat.le_refl _,Blk.new _ _ _,by omega,by unfold maxLen;omega,by rw[UA_size,zeros_len];omega,by simp[UA,U,zeros,List.take_replicate];omega⟩⟩)
 go_loopg [5,6,23] x (ShlRel w k x s (a.take x))
 case atStart=>exact⟨0,0,zeros k,rfl,rfl,Nat.two_pow_pos s,by omega,rfl,hI (by rw[zeros_len];rfl),hI (ok_zeros _),rfl,ab,hI (by simp[zeros,val_zeros,val_nil]),(hI ((Below.refl w.heap.size w).alloc (Nat.le_refl _) (.cells (UA (zeros (k+x+1))) tU)))⟩
 obtain⟨i,b,o,rfl,rfl,H,hi,rfl,z,I,rfl,J,L,v⟩:=hrel;have M:=v.o.size
 by_cases hin:i<x
 ·
  obtain⟨N,o1,q,hA,ae,O,B,P⟩:=G.o.at_ hin;subst hA;have ao:wr.cell? ⟨N,o1+i,none⟩=some (.int .u32 q):=(v.o.cell (p:=⟨N,_,none⟩) ae).trans P;have d:=hI (shl_step z.o I.o L.o (val_take_succ O));have Q:=hI (shl_lt q s b B j H);clear P O;unfold BB at B;have af:=or_shl q s b B j H;have ag:b≤2147483648:=(by have:=two_pow_le31 s j;omega);have R:BB*2^s≤BB*2147483648:=Nat.mul_le_mul_left _ (two_pow_le31 s j);obtain⟨C,r,D,u,E⟩:=info_parts Tryz.infoU32;obtain⟨S,y⟩:=eX (q*2^s+b);have T:(q:Int)*2^s+b=(S:Int):=(by rw[y];simp);have ap:S<9223372036854775808:=(by have:=Q.o;rw[y];unfold BB at R this;omega)
  have aq:0≤(q:Int)*2^s:=by
   have:(q:Int)*2^s=((q*2^s:Nat):Int):=by simp
   rw[this];omega
  have ar:(q:Int)*2^s≤S:=(by omega);rw[T]at af;have V:=hI y;clear y R T
  go_wp2_with (at_builtin;refine wpList_append_fits _ rfl _ _ _ rfl w.heap.size 157 C 1 Tryz.underlying73 r u w.heap.size (k+i) (k+x+1) (U o) rfl (by exact J.o.alloc _) ⟨wr.heap.size,0,none⟩ 1 1 [.int .u32 ((S:Int)%4294967296)] rfl rfl (by exact World.news_of_block (cs:=#[.int .u32 ((S:Int)%4294967296)]) (t:=157) (fr:=(0,0)) (heap_alloc_new wr _)) (by simp[Value.oneCell']) (by omega) ?_)
  intro w2 hown2 hgrow
  have ah:=hI (show w2.ownsRow w.heap.size tU 1 (.l (some ⟨w.heap.size,0,none⟩) (k+(i+1)) (k+x+1)) (k+(i+1)) (U (o++[(q*2^s+b)%BB]))by
   rw[U_append,←V.o]
   exact hown2)
  have F:=hI ((v.o.alloc M (.cells #[.int .u32 ((S:Int)%4294967296)] tU)).trans (below_of_grown hgrow (by
   intro g hg;injection hg with hg
   omega) (by simp;omega)))
  clear hown2 hgrow r D u E;go_wp2
  go_roundg (x-(i+1))
  case measure=>omega
  refine⟨i+1,(q*2^s+b)/BB,o++[(q*2^s+b)%BB],by go_num,?_,?_,by omega,rfl,hI d.o.1,hI d.o.2.1,rfl,ah,hI d.o.2.2,F⟩
  ·
   rw[←V.o];unfold BB;simp
  exact Nat.div_lt_of_lt_mul Q.o
 obtain rfl:i=x:=by omega
 obtain⟨C,r,D,u,E⟩:=info_parts Tryz.infoU32;have ag:b≤2147483648:=(by have:=two_pow_le31 s j;omega);have d:=hI (shl_end z.o I.o (a:=a.take i) (by have:=L.o;rwa [List.take_of_length_le (l:=a.take i) (by rw[G.o.len];omega)]at this) Z.o (by unfold BB;omega));rw[X.o]at d
 go_wp2_with (at_builtin;refine wpList_append_fits _ rfl _ _ _ rfl w.heap.size 157 C 1 Tryz.underlying73 r u w.heap.size (k+i) (k+i+1) (U o) rfl (by exact J.o.alloc _) ⟨wr.heap.size,0,none⟩ 1 1 [.int .u32 (b:Int)] rfl rfl (by exact World.news_of_block (cs:=#[.int .u32 (b:Int)]) (t:=157) (fr:=(0,0)) (heap_alloc_new wr _)) (by simp[Value.oneCell']) (by omega) ?_)
 intro w2 hown2 hgrow;have ai:=hI (show Blk w2 w.heap.size tU (UA (o++[b]))from blk_of_own (l:=o++[b]) (by rw[U_append];exact hown2))
 have F:=hI ((v.o.alloc M (.cells #[.int .u32 (b:Int)] tU)).trans (below_of_grown hgrow (by
  intro g hg;injection hg with hg
  omega) (by simp;omega)))
 clear hown2 hgrow r D u E;go_wp2;go_ret;refine⟨o++[b],?_,ai,hI (by rw[List.length_append,z.o];rfl),hI d.o.1,hI d.o.2,F⟩
 rfl
theorem shl_any(A:Option Addr)(n c p:Nat)(a:List Nat)(w:World)(ha:Sl w A n c a)(hn:n≤100000)(hp:p≤1000000):
 Calls Tryz.prog 226 #[.l A n c,.i p] w (Fv (p/32+n+1) (val a*2^p) w):=by
 have hta:tl a≤n:=(by rw[←ha.len];exact tl_le a);refine(shl_exact A n c p a w ha hn hp).mono ?_;rintro e w' ⟨l,rfl,HB,HL,HO,HV,HBL⟩;exact⟨_,_,_,l,rfl,hI (Nw.of_blk HB.o HO.o (Nat.le_refl _) HL.o (by unfold maxLen;omega)),HV,by omega,HBL⟩
end Go.Proofs.YtgcjmhjjpbcfmaaGreatDoor
namespace Go.Fl.Nm
open Go.RowKit Go.Fl
def digF:Nat→Nat→Nat→Nat→Nat→Nat
  | 0,_,_,_,_=>0
  | q+1,r,t,v,u=>if r<BB∧r*BB+t<(q+1)*u then digF q (r+v) t v u else q+1
theorem digF_step(q r t v u:Nat)(h1:r<BB)(h2:r*BB+t<(q+1)*u):digF (q+1) r t v u=digF q (r+v) t v u:=by
 rw[digF,if_pos ⟨h1,h2⟩]
theorem digF_stop(q r t v u:Nat)(h:¬(r<BB∧r*BB+t<q*u)):digF q r t v u=q:=by
 cases q with
 | zero=>rfl
 | succ q=>rw[digF,if_neg h]
theorem digF_spec(q r t v u:Nat)(Q:Nat)(hQ:Q*(v*BB+u)≤(q*v+r)*BB+t)(hQq:Q≤q)(ht:t<BB):
 Q≤digF q r t v u∧digF q r t v u≤q∧digF q r t v u*v≤q*v+r∧(digF q r t v u*v+BB≤q*v+r∨digF q r t v u*(v*BB+u)≤(q*v+r)*BB+t):=by
 induction q generalizing r with
 | zero=>exact⟨hQq,Nat.le_refl _,by simp[digF],.inr (by simp[digF])⟩
 | succ q ih=>
  by_cases h:r<BB∧r*BB+t<(q+1)*u
  ·
   rw[digF,if_pos h];have e:q*v+(r+v)=(q+1)*v+r:=(by rw[Nat.add_mul];omega)
   have h2:Q≤q:=by
    rcases Nat.lt_or_ge q Q with hlt | hge
    ·
     exfalso
     have hq:Q=q+1:=(by omega);rw[hq,Nat.mul_add,←Nat.mul_assoc,Nat.add_mul ((q+1)*v) r BB]at hQ
     omega
    exact hge
   have:=ih (r+v) (by rw[e];exact hQ) h2;rw[e]at this;exact⟨this.1,by omega,this.2.2⟩
  rw[digF,if_neg h];refine⟨hQq,Nat.le_refl _,by omega,?_⟩
  by_cases h1:r<BB
  ·
   right
   have h2:(q+1)*u≤r*BB+t:=by
    rcases Nat.lt_or_ge (r*BB+t) ((q+1)*u)with h3 | h3
    ·
     exact absurd ⟨h1,h3⟩ h
    exact h3
   rw[Nat.mul_add,←Nat.mul_assoc,Nat.add_mul ((q+1)*v) r BB]
   omega
  left;omega
def guessF(top next t v u:Nat):Nat:=if v≤top then digF (BB-1) (next+v) t v u else digF ((top*BB+next)/v) ((top*BB+next)%v) t v u
theorem guessF_spec(top next t v u Q:Nat)(ht:t<BB)(hn:next<BB)(hv:0<v)(htop:top≤v)(hQB:Q<BB)(hQ:Q*(v*BB+u)≤(top*BB+next)*BB+t):
 Q≤guessF top next t v u∧guessF top next t v u<BB∧guessF top next t v u*v≤top*BB+next∧
  (guessF top next t v u*v+BB≤top*BB+next∨guessF top next t v u*(v*BB+u)≤(top*BB+next)*BB+t):=by
 unfold guessF
 by_cases h:v≤top
 ·
  rw[if_pos h]
  have e:(BB-1)*v+(next+v)=top*BB+next:=by
   have:top=v:=by omega
   rw[this,Nat.sub_mul,Nat.one_mul,Nat.mul_comm v];have:1*v≤BB*v:=Nat.mul_le_mul_right _ BB_pos
   omega
  have:=digF_spec (BB-1) (next+v) t v u Q (by rw[e];exact hQ) (by omega) ht;rw[e]at this;have b:=BB_pos;exact⟨this.1,by omega,this.2.2⟩
 rw[if_neg h];have e:(top*BB+next)/v*v+(top*BB+next)%v=top*BB+next:=Nat.div_add_mod' _ _
 have c:(top*BB+next)/v<BB:=by
  rw[Nat.div_lt_iff_lt_mul hv];have:(top+1)*BB≤v*BB:=Nat.mul_le_mul_right _ (by omega);rw[Nat.mul_comm v,Nat.add_mul]at this
  omega
 have a:Q≤(top*BB+next)/v:=by
  rw[Nat.le_div_iff_mul_le hv];rw[Nat.mul_add,←Nat.mul_assoc]at hQ
  have:Q*v*BB<(top*BB+next+1)*BB:=by
   rw[Nat.add_mul (top*BB+next)];have:0≤Q*u:=Nat.zero_le _
   omega
  have:=Nat.lt_of_mul_lt_mul_right this
  omega
 have:=digF_spec _ ((top*BB+next)%v) t v u Q (by rw[e];exact hQ) a ht;rw[e]at this;exact⟨this.1,by omega,this.2.2⟩
end Go.Fl.Nm
namespace Go.Proofs.YtgcjmhjjpbcfmaaGreatDoor
open Go.RowKit Go.Fl Go.Fl.Nm
theorem quiet_left{P:Program}{f:FuncId}{args:Array Value}{w:World}{n:Nat}{v:Value}
 (h:Calls P f args (w.drewN n) fun e w'=>e= .returned v∧w.drewN n=w'):Calls P f args (w.drewN n) fun e w''=>e= .returned v∧∃m,w''=w.drewN m:=
 h.mono fun _ _ ⟨he,hm⟩=>⟨he,n,hm.symm⟩
def DigRel(q0 r0 t v u:Nat)(qv rv:Value):Prop:=∃q r:Nat,qv= .int .u64 q∧rv= .int .u64 r∧q<4294967296∧r<8589934592∧Hid (digF q r t v u=digF q0 r0 t v u)
theorem digit_any(q0 r0 t v u:Nat)(w:World)(hq0:q0<4294967296)(hr0:r0<8589934592)(ht:t<4294967296)(hv:v<4294967296)(hu:u<4294967296):
 Calls Tryz.prog 273 #[.int .u64 q0,.int .u64 r0,.int .u32 t,.int .u32 v,.int .u32 u] w fun e w'=>e= .returned (.int .u64 (digF q0 r0 t v u:Nat))∧w=w':=by
 generalize hD:digF q0 r0 t v u=D
 have g:=hI hD;clear hD
 go_in
 go_wp2
 go_loop [0,1] (DigRel q0 r0 t v u) (fun q _=>(intOf q).toNat)
 case atStart=>exact⟨q0,r0,rfl,rfl,hq0,hr0,hI rfl⟩
 obtain⟨q,r,rfl,rfl,k,y,b⟩:=hrel;rw[g.o]at b
 by_cases hrB:r<4294967296
 ·
  have l:=or_join64 (r*4294967296) t (by omega) (by omega) ht;rw[show((r*4294967296:Nat):Int)=(r:Int)*4294967296 by omega]at l
  generalize hzz:r*4294967296+t=z at *
  have B:z<18446744073709551616:=(by omega);have i:=hI hzz;clear hzz;have C:=(mul_bd k hu).2.2;have m:(q:Int)*u=((q*u:Nat):Int):=(by simp)
  generalize hpp:q*u=p at *
  have c:=hI hpp;clear hpp
  by_cases hzp:z<p
  ·
   obtain⟨q',rfl⟩:∃q',q=q'+1:=by
    cases q with
    | zero=>have:=c.o;simp at this;omega
    | succ q=>exact⟨q,rfl⟩
   have a:=hI (show digF q' (r+v) t v u=D by
    rw[←b.o];refine(digF_step q' r t v u (by unfold BB;omega) ?_).symm;have n:=i.o;have o:=c.o
    unfold BB;omega)
   rw[show((q'+1:Nat):Int)=(q':Int)+1 by omega]at m;have j:decide ((r:Int)<4294967296)=true:=(by simp;omega);have s:decide (z<p)=true:=(by simp;omega);have x:(r:Int)≤4294967295:=(by omega);clear hzp hrB;go_wp2
   go_round
   case rel=>exact⟨q',r+v,by go_num,by go_num,by omega,by omega,hI (by rw[a.o,g.o])⟩
   case measure=>simp[intOf]
  have a:=hI (show q=D by
   rw[←b.o];refine(digF_stop q r t v u ?_).symm;rintro⟨_,d⟩;have n:=i.o;have o:=c.o
   unfold BB at d;omega)
  have j:decide ((r:Int)<4294967296)=true:=(by simp;omega);have s:decide (z<p)=false:=(by simp;omega);have x:(r:Int)≤4294967295:=(by omega);clear hzp hrB;go_wp2;go_ret;exact⟨ret_int (by rw[a.o]),rfl⟩
 have a:=hI (show q=D by
  rw[←b.o]
  exact(digF_stop q r t v u (by rintro⟨d,_⟩;unfold BB at d;omega)).symm)
 have j:decide ((r:Int)<4294967296)=false:=(by simp;omega);clear hrB;go_wp2;go_ret;exact⟨ret_int (by rw[a.o]),rfl⟩
theorem guess_any(top next t v u:Nat)(w:World)(htop:top≤v)(hn:next<4294967296)(ht:t<4294967296)(hv:v<4294967296)(hv0:0<v)(hu:u<4294967296):
 Calls Tryz.prog 227 #[.int .u32 top,.int .u32 next,.int .u32 t,.int .u32 v,.int .u32 u] w fun e w'=>e= .returned (.int .u64 (guessF top next t v u:Nat))∧∃n,w'=w.drewN n:=by
 by_cases h:v≤top
 ·
  obtain rfl:top=v:=by omega
  have a:=hI (show guessF top next t top u=digF 4294967295 (next+top) t top u by unfold guessF;rw[if_pos h];rfl)
  go_in
  go_wp2_with fail;have K:=digit_any 4294967295 (next+top) t top u w (by omega) (by omega) ht hv hu;rw[show((next+top:Nat):Int)=(next:Int)+top by omega]at K;refine K.mono ?_;rintro e w1 ⟨rfl,rfl⟩;clear K;go_wp2;go_ret;exact⟨ret_int (by rw[a.o]),0,rfl⟩
 have l:decide (v≤top)=false:=(by simp;omega);have a:=hI (show guessF top next t v u=digF ((top*BB+next)/v) ((top*BB+next)%v) t v u by unfold guessF;rw[if_neg h]);have c:=or_join64 (top*4294967296) next (by omega) (by omega) hn;rw[show((top*4294967296:Nat):Int)=(top:Int)*4294967296 by omega]at c
 have b:(top*4294967296+next)/v<4294967296:=by
  rw[Nat.div_lt_iff_lt_mul hv0];have:(top+1)*4294967296≤v*4294967296:=Nat.mul_le_mul_right _ (by omega)
  omega
 have d:(top*4294967296+next)%v<v:=Nat.mod_lt _ hv0;have m:((v:Int)==0)=false:=(by rw[beq_eq_false_iff_ne];omega);have o:¬((v:Int)=0):=(by omega);have g:=hI (show top*BB+next=top*4294967296+next from rfl);have p:top*4294967296+next<18446744073709551616:=(by omega)
 generalize top*4294967296+next=z at *
 have K:=fun W=>digit_any (z/v) (z%v) t v u W b (by omega) ht hv hu
 rw[Int.natCast_ediv,Int.natCast_emod]at K;have i:=hI K;have j:=hI b;clear K b d
 go_in
 go_wp2_with fail
 have k:IntKind.u64.wrap ((z:Int)/v)=(z:Int)/v:=by
  have q:=j.o;rw[←Int.natCast_ediv];simp only[IntKind.wrap,IntKind.bits,IntKind.signed]
  generalize z/v=y at *
  simp
  omega
 go_quiet ((go_at_call 273;exact quiet_left (i.o _)))
 clear k;go_wp2;go_ret;exact⟨ret_int (by rw[a.o,g.o]),_,rfl⟩
end Go.Proofs.YtgcjmhjjpbcfmaaGreatDoor
namespace Go.Fl.Nm
open Go.RowKit Go.Fl
theorem and_mask64(x:Nat)(h:x<18446744073709551616):bits .and .u64 (x:Int) 4294967295=((x%4294967296:Nat):Int):=by
 have:=bits_mask .u64 64 (by decide) (fun n h0 h1=>by simp[IntKind.wrap,IntKind.bits,IntKind.signed];omega) 32 (by decide) (x:Int) (by omega) (by omega);have e:((2:Int)^32-1)=4294967295:=(by decide);rw[e]at this;rw[this];omega
theorem take_limb(o m b:Nat)(ho:o<BB)(hm:m<BB)(hb:b≤1):∃d r:Nat,d<BB∧r≤1∧d+m+b=o+BB*r∧
 IntKind.u64.wrap (IntKind.u64.wrap ((o:Int)-m)-b)%4294967296=d∧IntKind.u64.wrap (IntKind.u64.wrap ((o:Int)-m)-b)/9223372036854775808=r:=by
 have hw:∀x:Int,IntKind.u64.wrap x=x%18446744073709551616:=fun x=>by simp[IntKind.wrap,IntKind.bits,IntKind.signed]
 rw[hw,hw]
 unfold BB at *
 by_cases h:o<m+b
 ·
  exact⟨o+4294967296-m-b,1,by omega,by omega,by omega,by omega,by omega⟩
 exact⟨o-m-b,0,by omega,by omega,by omega,by omega,by omega⟩
theorem take_step{us l v:List Nat}{i j n q y o cc bb d r:Nat}(hl:l.length=us.length)(hok:ok l)(hj:j+n<us.length)(hi:i<n)
 (hv:val l+BB^j*(q*val (v.take i))=val us+BB^(j+i)*(cc+bb)) (hk:∀x,x<j∨j+i≤x→l[x]? =us[x]?)
 (hy:val (v.take (i+1))=val (v.take i)+BB^i*y) (ho:l[j+i]? =some o) (hd:d<BB) (he:d+(q*y+cc)%BB+bb=o+BB*r):
 (l.set (j+i) d).length=us.length∧ok (l.set (j+i) d)∧val (l.set (j+i) d)+BB^j*(q*val (v.take (i+1)))=val us+BB^(j+(i+1))*((q*y+cc)/BB+r)∧
  (∀x,x<j∨j+(i+1)≤x→(l.set (j+i) d)[x]? =us[x]?):=by
 refine⟨by simp[hl],ok_set hok _ _ hd,?_,fun x hx=>by rw[at_set_ne _ (by omega)];exact hk x (by omega)⟩;have h1:=val_set d ho;rw[hy,←Nat.add_assoc j i 1,Nat.pow_succ,Nat.mul_assoc (BB^(j+i))]
 have e2:BB^j*(q*(val (v.take i)+BB^i*y))=BB^j*(q*val (v.take i))+BB^(j+i)*(q*y):=by
  rw[Nat.mul_add q,Nat.mul_add,Nat.pow_add,Nat.mul_left_comm q,Nat.mul_assoc (BB^j)]
 rw[e2];have e3:BB^(j+i)*(d+(q*y+cc)%BB+bb)=BB^(j+i)*(o+BB*r):=(by rw[he]);have e4:BB^(j+i)*(q*y+cc)=BB^(j+i)*((q*y+cc)%BB)+BB^(j+i)*(BB*((q*y+cc)/BB)):=(by rw[←Nat.mul_add,Nat.mod_add_div]);simp only[Nat.mul_add]at e3 e4 h1 hv ⊢
 omega
theorem take_end{us l v:List Nat}{j n q o cc bb d r:Nat}(hl:l.length=us.length)(hok:ok l)(hj:j+n<us.length)
 (hv:val l+BB^j*(q*val v)=val us+BB^(j+n)*(cc+bb)) (hk:∀x,x<j∨j+n≤x→l[x]? =us[x]?)
 (ho:l[j+n]? =some o) (hd:d<BB) (he:d+cc+bb=o+BB*r):
 (l.set (j+n) d).length=us.length∧ok (l.set (j+n) d)∧val (l.set (j+n) d)+BB^j*(q*val v)=val us+BB^(j+n+1)*r∧
  (∀x,x<j∨j+n<x→(l.set (j+n) d)[x]? =us[x]?):=by
 refine⟨by simp[hl],ok_set hok _ _ hd,?_,fun x hx=>by rw[at_set_ne _ (by omega)];exact hk x (by omega)⟩;have h1:=val_set d ho;rw[Nat.pow_succ,Nat.mul_assoc (BB^(j+n))];have e3:BB^(j+n)*(d+cc+bb)=BB^(j+n)*(o+BB*r):=(by rw[he]);simp only[Nat.mul_add]at e3 h1 hv ⊢
 omega
theorem grown_setCell(w:World)(g i:Nat)(v:Value):w.grownBy (w.setCell ⟨g,i,none⟩ v) (some g):=
 ⟨rfl,rfl,rfl,by simp[World.setCell],fun k _ hk=>Below.heap_setCell w ⟨g,i,none⟩ v k (fun e=>hk (by rw[e]))⟩
theorem grown_trans{a b c:World}{row:Option Nat}(h1:a.grownBy b row)(h2:b.grownBy c row):a.grownBy c row:=
 ⟨h2.os.trans h1.os,h2.tape.trans h1.tape,h2.output.trans h1.output,Nat.le_trans h1.size h2.size,fun k hk hr=>(h2.block k (by have:=h1.size;omega) hr).trans (h1.block k hk hr)⟩
theorem grown_refl(w:World)(row:Option Nat):w.grownBy w row:=World.grownBy.refl w row
end Go.Fl.Nm
namespace Go.Proofs.YtgcjmhjjpbcfmaaGreatDoor
open Go.RowKit Go.Fl Go.Fl.Nm
def TakePost(w:World)(g j n q:Nat)(us v:List Nat)(e:Ending)(w':World):Prop:=
  ∃(us':List Nat) (r:Nat),e= .returned (.b (decide (r=1)))∧r≤1∧Hid (us'.length=us.length)∧Hid (ok us')∧Hid (Blk w' g tU (UA us'))∧
    Hid (val us'+BB^j*(q*val v)=val us+BB^(j+n+1)*r)∧Hid (∀x,x<j∨j+n<x→us'[x]? =us[x]?)∧Hid (w.grownBy w' (some g))
def TakeRel(w:World)(g j n q:Nat)(us v:List Nat)(k:Nat)(cv bv iv:Value)(wr:World):Prop:=
  ∃(i cc bb:Nat) (l:List Nat),iv= .i i∧cv= .int .u64 cc∧bv= .int .u64 bb∧cc<4294967296∧bb≤1∧i≤n∧k=n-i∧Hid (l.length=us.length)∧Hid (ok l)∧Hid (Blk wr g tU (UA l))∧
    Hid (val l+BB^j*(q*val (v.take i))=val us+BB^(j+i)*(cc+bb))∧Hid (∀x,x<j∨j+i≤x→l[x]? =us[x]?)∧Hid (w.grownBy wr (some g))
theorem take_any(g j n C d q:Nat)(B:Option Addr)(us v:List Nat)(w:World)(hB:Blk w g tU (UA us))(hok:ok us)(hj:j+n<us.length)(hul:us.length≤200000)(hv:Sl w B n d v)
 (hne:∀b o,B=some ⟨b,o,none⟩→b≠g) (hq:q<4294967296):
 Calls Tryz.prog 228 #[.l (some ⟨g,j,none⟩) (n+1) C,.l B n d,.int .u64 q] w (TakePost w g j n q us v):=by
 have M:=hI hv;have Z:=hI hne;have HB:=hI hB;have ab:=hI hok;have ah:j+n<200000:=(by omega);have E:=hI hj;clear hv hne hB hok hj hul
 go_in
 go_wp2
 go_loopg [7,8,16] n (TakeRel w g j n q us v)
 case atStart=>exact⟨0,0,0,us,rfl,rfl,rfl,by omega,by omega,by omega,rfl,hI rfl,ab,HB,hI (by simp[val_nil]),hI (fun _ _=>rfl),hI (grown_refl _ _)⟩
 obtain⟨i,a,N,l,rfl,rfl,rfl,ac,O,hi,rfl,F,G,p,P,Q,H⟩:=hrel
 by_cases hin:i<n
 ·
  obtain⟨R,T,y,hA,aj,U,V,W⟩:=M.o.at_ hin;subst hA
  have ak:wr.cell? ⟨R,T+i,none⟩=some (.int .u32 y):=H.o.cell W (by
   intro h;injection h with h
   exact Z.o R T rfl h)
  obtain⟨o,c⟩:∃o,l[j+i]? =some o:=⟨_,List.getElem?_eq_getElem (by have:=E.o;rw[F.o];omega)⟩
  have u:=ok_at G.o c;have ae:wr.cell? ⟨g,j+i,none⟩=some (.int .u32 o):=blkU_cell p.o c;have af:wr.frozen? ⟨g,j+i,none⟩=false:=p.o.frozen _;unfold BB at V;obtain⟨p1,p2,p3⟩:=mul_bd hq V;have X:q*y+a<18446744073709551616:=(by omega);obtain⟨x,r,z,I,D,s,t⟩:=take_limb o ((q*y+a)%BB) N u (Nat.mod_lt _ BB_pos) O;have k:=hI (take_step F.o G.o E.o hin P.o Q.o (val_take_succ U) c z D);have an:=and_mask64 (q*y+a) X;have ao:(q:Int)*y+a=((q*y+a:Nat):Int):=(by simp);have ap:q*y+a≤18446744069414584320:=(by omega);rw[(show(q*y+a)%BB=(q*y+a)%4294967296 from rfl)]at s t;clear W U c D
  generalize hS:q*y+a=S at *
  clear hS;unfold BB at u z
  generalize hm:S%4294967296=m at *
  have aq:m<4294967296:=(by omega);clear hm;have J:=hI s;have L:=hI t;clear s t p3 X;go_wp2
  go_roundg (n-(i+1))
  case measure=>omega
  refine⟨i+1,S/BB,r,l.set (j+i) x,by go_num,by unfold BB;simp,by rw[L.o],by unfold BB;omega,I,by omega,rfl,hI k.o.1,hI k.o.2.1,hI ?_,hI k.o.2.2.1,hI k.o.2.2.2,hI (grown_trans H.o (grown_setCell _ _ _ _))⟩;rw[J.o];exact blkU_set p.o _ x
 obtain rfl:i=n:=by omega
 obtain⟨o,c⟩:∃o,l[j+i]? =some o:=⟨_,List.getElem?_eq_getElem (by have:=E.o;rw[F.o];omega)⟩
 have u:=ok_at G.o c;have ae:wr.cell? ⟨g,j+i,none⟩=some (.int .u32 o):=blkU_cell p.o c;have af:wr.frozen? ⟨g,j+i,none⟩=false:=p.o.frozen _;obtain⟨x,r,z,I,D,s,t⟩:=take_limb o a N u ac O;have Y:=P;rw[List.take_of_length_le (by rw[M.o.len];omega)]at Y;have k:=hI (take_end F.o G.o E.o Y.o Q.o c z D);have J:=hI s;have L:=hI t;clear c D s t;unfold BB at u z;go_wp2;go_ret;refine⟨l.set (j+i) x,r,ret_bool ?_,I,hI k.o.1,hI k.o.2.1,hI ?_,hI k.o.2.2.1,hI k.o.2.2.2,hI (grown_trans H.o (grown_setCell _ _ _ _))⟩
 ·
  rw[L.o,Bool.eq_iff_iff]
  simp
  omega
 rw[J.o];exact blkU_set p.o _ x
end Go.Proofs.YtgcjmhjjpbcfmaaGreatDoor
namespace Go.Fl.Nm
open Go.RowKit Go.Fl
theorem val_top2{l:List Nat}{m x y:Nat}(hok:ok l)(hl:l.length=m+2)(hx:l[m+1]? =some x)(hy:l[m]? =some y):∃r,r<BB^m∧val l=(x*BB+y)*BB^m+r:=by
 have h1:=val_take_succ hx;rw[List.take_of_length_le (by omega)]at h1;rw[val_take_succ hy]at h1;have h2:=val_lt (ok_take hok m);rw[List.length_take,Nat.min_eq_left (by omega)]at h2;refine⟨_,h2,?_⟩;rw[h1,Nat.pow_succ,Nat.add_mul,Nat.mul_comm (BB^m) y,Nat.mul_assoc x,Nat.mul_comm x,Nat.mul_comm BB]
 omega
theorem digit_top{V W P v1 v2 t1 t2 t3 rv rw:Nat}(hV:V=(v1*BB+v2)*P+rv)(hW:W=((t1*BB+t2)*BB+t3)*P+rw)(hrv:rv<P)(hrw:rw<P)(hv2:v2<BB)
 (hWV:W<BB*V):t1≤v1∧(W/V)*(v1*BB+v2)≤(t1*BB+t2)*BB+t3:=by
 have g:0<P:=by omega
 have b:=Nat.div_mul_le_self W V
 constructor
 ·
  rcases Nat.lt_or_ge v1 t1 with h | h
  ·
   exfalso
   have c:(v1+1)*BB*BB*P≤t1*BB*BB*P:=Nat.mul_le_mul_right _ (Nat.mul_le_mul_right _ (Nat.mul_le_mul_right _ h))
   have a:BB*V≤(v1+1)*BB*BB*P:=by
    have d:V≤(v1*BB+v2+1)*P:=(by rw[hV,Nat.add_mul _ 1 P];omega);have f:v1*BB+v2+1≤(v1+1)*BB:=(by rw[Nat.add_mul];omega)
    calc BB*V≤BB*((v1*BB+v2+1)*P):=Nat.mul_le_mul_left _ d
     _≤BB*(((v1+1)*BB)*P):=Nat.mul_le_mul_left _ (Nat.mul_le_mul_right _ f)
     _=(v1+1)*BB*BB*P:=by rw[←Nat.mul_assoc,Nat.mul_comm BB]
   have i:t1*BB*BB*P≤W:=by
    rw[hW]
    have:t1*BB*BB≤(t1*BB+t2)*BB+t3:=by rw[Nat.add_mul];omega
    exact Nat.le_trans (Nat.mul_le_mul_right _ this) (Nat.le_add_right _ _)
   omega
  exact h
 have c:(W/V)*(v1*BB+v2)*P≤W:=by
  refine Nat.le_trans ?_ b
  rw[hV,Nat.mul_assoc]
  exact Nat.mul_le_mul_left _ (Nat.le_add_right _ _)
 have a:(W/V)*(v1*BB+v2)*P<((t1*BB+t2)*BB+t3+1)*P:=by
  rw[Nat.add_mul _ 1 P];omega
 have:=Nat.lt_of_mul_lt_mul_right a
 omega
theorem digit_near{V W P v1 v2 t1 t2 t3 rv rw x:Nat}(hV:V=(v1*BB+v2)*P+rv)(hW:W=((t1*BB+t2)*BB+t3)*P+rw)(hrv:rv<P)(hv1:0<v1)(hv2:v2<BB)(hx:x<BB)
 (h:x*v1+BB≤t1*BB+t2∨x*(v1*BB+v2)≤(t1*BB+t2)*BB+t3):x*V≤W+V:=by
 rcases h with h | h
 ·
  have h1:x*V≤x*((v1+1)*BB*P):=by
   apply Nat.mul_le_mul_left
   rw[hV];have:(v1*BB+v2+1)*P≤(v1+1)*BB*P:=Nat.mul_le_mul_right _ (by rw[Nat.add_mul];omega);rw[Nat.add_mul _ 1 P]at this
   omega
  have h2:x*((v1+1)*BB*P)=(x*v1+x)*(BB*P):=(by rw[Nat.mul_assoc (v1+1),←Nat.mul_assoc,Nat.mul_add,Nat.mul_one]);have h3:(x*v1+x)*(BB*P)≤(t1*BB+t2)*(BB*P):=Nat.mul_le_mul_right _ (by omega)
  have h4:(t1*BB+t2)*(BB*P)≤W:=by
   rw[hW,←Nat.mul_assoc,Nat.add_mul _ t3 P];omega
  omega
 have h1:x*V≤x*((v1*BB+v2)*P)+x*P:=by
  rw[hV,←Nat.mul_add];exact Nat.mul_le_mul_left _ (by omega)
 have h2:x*((v1*BB+v2)*P)≤((t1*BB+t2)*BB+t3)*P:=by
  rw[←Nat.mul_assoc];exact Nat.mul_le_mul_right _ h
 have h3:x*P≤BB*P:=Nat.mul_le_mul_right _ (by omega)
 have h4:BB*P≤V:=by
  rw[hV];have:1*BB≤v1*BB:=Nat.mul_le_mul_right _ hv1;have:BB*P≤(v1*BB+v2)*P:=Nat.mul_le_mul_right _ (by omega)
  omega
 omega
theorem div_of_near{x V W:Nat}(hV:0<V)(h1:W/V≤x)(h2:x*V≤W+V):x=W/V∨x=W/V+1:=by
 have h3:x≤W/V+1:=by
  rcases Nat.lt_or_ge (W/V+1) x with h | h
  ·
   exfalso
   have h4:(W/V+2)*V≤x*V:=Nat.mul_le_mul_right _ h
   have h5:W<(W/V+1)*V:=by
    have:=Nat.div_add_mod W V;have:=Nat.mod_lt W hV;rw[Nat.add_mul,Nat.mul_comm (W/V)];omega
   rw[Nat.add_mul]at h4 h5
   omega
  exact h
 omega
theorem low_part{us:List Nat}{j:Nat}(hok:ok us)(hj:j≤us.length):∃r,r<BB^j∧val us=r+BB^j*val (us.drop j):=by
 have h2:=val_lt (ok_take hok j);rw[List.length_take,Nat.min_eq_left hj]at h2;exact⟨_,h2,val_split us j hj⟩
theorem drop_small{us:List Nat}{j:Nat}{X:Nat}(hok:ok us)(hj:j≤us.length)(h:val us<BB^j*X):val (us.drop j)<X:=by
 obtain⟨r,hr,e⟩:=low_part hok hj;rw[e]at h;exact Nat.lt_of_mul_lt_mul_left (Nat.lt_of_le_of_lt (Nat.le_add_left _ _) h)
theorem zero_above{us:List Nat}{k:Nat}(hok:ok us)(h:val us<BB^k):∀i y,k≤i→us[i]? =some y→y=0:=by
 intro i y hi hy;have hl:=(List.getElem?_eq_some_iff.1 hy).1;have h1:=val_split us i (by omega);rw[val_drop hy]at h1
 rcases Nat.eq_zero_or_pos y with h0 | h0
 ·
  exact h0
 exfalso
 have h2:BB^k≤BB^i:=Nat.pow_le_pow_right BB_pos hi;have h3:BB^i*1≤BB^i*(y+BB*val (us.drop (i+1))):=Nat.mul_le_mul_left _ (by omega)
 omega
theorem val_lt_of_zeros{us:List Nat}{k:Nat}(hok:ok us)(h:∀i y,k≤i→us[i]? =some y→y=0):val us<BB^k:=by
 by_cases hk:k≤us.length
 ·
  have h1:=val_split us k hk
  have h2:val (us.drop k)=0:=by
   apply val_zero_of
   intro x hx;obtain⟨i,hi⟩:=List.getElem?_of_mem hx;rw[List.getElem?_drop]at hi;exact h _ _ (by omega) hi
  have h3:=val_lt (ok_take hok k);rw[List.length_take,Nat.min_eq_left hk]at h3;rw[h1,h2];omega
 exact Nat.lt_of_lt_of_le (val_lt hok) (Nat.pow_le_pow_right BB_pos (by omega))
theorem round_guess{us v:List Nat}{j m t1 t2 t3 v1 v2:Nat}(hok:ok us)(hv:ok v)(hvl:v.length=m+2)(hj:j+(m+2)<us.length)(hlt:val us<val v*BB^(j+1))
 (h1:us[j+(m+2)]? =some t1) (h2:us[j+(m+1)]? =some t2) (h3:us[j+m]? =some t3) (g1:v[m+1]? =some v1) (g2:v[m]? =some v2) (hv1:0<v1):
 t1≤v1∧guessF t1 t2 t3 v1 v2<BB∧(guessF t1 t2 t3 v1 v2=val (us.drop j)/val v∨guessF t1 t2 t3 v1 v2=val (us.drop j)/val v+1):=by
 obtain⟨C,d,a⟩:=val_top2 hv hvl g1 g2
 have f:0<val v:=by
  rw[a]
  have:0<(v1*BB+v2)*BB^m:=Nat.mul_pos (by have:=Nat.mul_pos hv1 BB_pos;omega) (Nat.pow_pos BB_pos)
  omega
 have b:val (us.drop j)<BB*val v:=drop_small hok (by omega) (by rw[Nat.pow_succ,Nat.mul_comm,Nat.mul_assoc]at hlt;exact hlt)
 have p:val (us.drop j)<BB^(m+3):=by
  have:=val_lt hv
  rw[hvl]at this
  calc val (us.drop j)<BB*val v:=b
   _≤BB*BB^(m+2):=Nat.mul_le_mul_left _ (by omega)
   _=BB^(m+3):=by rw[Nat.mul_comm,←Nat.pow_succ]
 have g:val (us.drop j)=((t1*BB+t2)*BB+t3)*BB^m+val ((us.drop j).take m):=by
  have c:=val_split (us.drop j) (m+3) (by rw[List.length_drop];omega)
  have q:val ((us.drop j).drop (m+3))=0:=by
   apply val_zero_of
   intro x hx
   obtain⟨i,k⟩:=List.getElem?_of_mem hx;rw[List.getElem?_drop]at k
   exact zero_above (ok_drop hok j) p _ _ (by omega) k
  rw[q,val_take_succ (x:=t1) (by rw[List.getElem?_drop];exact h1),val_take_succ (x:=t2) (by rw[List.getElem?_drop];exact h2),val_take_succ (x:=t3) (by rw[List.getElem?_drop];exact h3)]at c;have r:BB^(m+1)=BB^m*BB:=Nat.pow_succ _ _;have s:BB^(m+2)=BB^m*BB*BB:=(by rw[Nat.pow_succ,Nat.pow_succ]);rw[r,s]at c;rw[c];have t:(t1*BB+t2)*BB+t3=t1*BB*BB+t2*BB+t3:=(by rw[Nat.add_mul]);rw[t,Nat.add_mul,Nat.add_mul]
  have D:BB^m*BB*BB*t1=t1*BB*BB*BB^m:=by
   rw[Nat.mul_assoc (BB^m),Nat.mul_assoc (BB^m),Nat.mul_comm (BB^m),Nat.mul_comm (BB*BB) t1,←Nat.mul_assoc]
  have E:BB^m*BB*t2=t2*BB*BB^m:=by
   rw[Nat.mul_assoc,Nat.mul_comm (BB^m),Nat.mul_comm BB t2]
  have F:BB^m*t3=t3*BB^m:=Nat.mul_comm _ _
  omega
 have u:val ((us.drop j).take m)<BB^m:=by
  have:=val_lt (ok_take (ok_drop hok j) m)
  rwa [List.length_take,List.length_drop,Nat.min_eq_left (by omega)]at this
 have l:=ok_at hv g2
 obtain⟨n,y⟩:=digit_top a g d u l b
 have z:val (us.drop j)/val v<BB:=by
  rw[Nat.div_lt_iff_lt_mul f];exact b
 obtain⟨A,o,G,B⟩:=guessF_spec t1 t2 t3 v1 v2 (val (us.drop j)/val v) (ok_at hok h3) (ok_at hok h2) hv1 n z y
 exact⟨n,o,div_of_near f A (digit_near a g d hv1 l o B)⟩
theorem ar_exact{u u' low PD PQ PR PP PV r:Nat}(e:u=low+PD)(he:u'+PQ=u+PP*r)(hd:PD=PQ+PR)(hub':u'<PP)(hr:r≤1)(hlow:low+PR<PV):r=0∧u'+PQ=u∧u'<PV:=by
 rcases Nat.eq_zero_or_pos r with h | h
 ·
  subst h;rw[Nat.mul_zero]at he;exact⟨rfl,by omega,by omega⟩
 obtain rfl:r=1:=by omega
 rw[Nat.mul_one]at he;omega
theorem ar_back{u u' low PD PQ PR PP PV r L S C O M:Nat}(e:u=low+PD)(he:u'+(PQ+PV)=u+PP*r)(hd:PD=PQ+PR)(hr:r≤1)(hlow:low+PR<PV)(ha:L+C=u'+PV)(hS:S+O=L+M)(hub:S<PP)
 (hc:M=O+C∨M+PP=O+C):r=1∧S+PQ=u∧S<PV:=by
 rcases Nat.eq_zero_or_pos r with h | h
 ·
  subst h;rw[Nat.mul_zero]at he;omega
 obtain rfl:r=1:=by omega
 rw[Nat.mul_one]at he;exact⟨rfl,by omega,by omega⟩
theorem low_rest{us:List Nat}{j V:Nat}(hok:ok us)(hj:j≤us.length)(hV:0<V):∃low,val us=low+BB^j*val (us.drop j)∧BB^j*val (us.drop j)=BB^j*((val (us.drop j)/V)*V)+BB^j*(val (us.drop j)%V)∧low+BB^j*(val (us.drop j)%V)<V*BB^j:=by
 obtain⟨low,hlow,e⟩:=low_part hok hj;refine⟨low,e,by rw[←Nat.mul_add,Nat.mul_comm (val (us.drop j)/V),Nat.div_add_mod],?_⟩;have hM2:=Nat.mod_lt (val (us.drop j)) hV;have h3:BB^j*(val (us.drop j)%V+1)≤BB^j*V:=Nat.mul_le_mul_left _ hM2;rw[Nat.mul_add,Nat.mul_one]at h3;rw[Nat.mul_comm V]
 generalize BB^j*(val (us.drop j)%V)=X at *
 generalize BB^j=P at *
 omega
theorem up_bound{us:List Nat}{j n V:Nat}(hlt:val us<V*BB^(j+1))(hvn:V<BB^n):val us<BB^(j+n+1):=by
 have h1:V*BB^(j+1)≤BB^n*BB^(j+1):=Nat.mul_le_mul_right _ (Nat.le_of_lt hvn);rw[←Nat.pow_add,show n+(j+1)=j+n+1 by omega]at h1;exact Nat.lt_of_lt_of_le hlt h1
theorem round_exact{us us' v:List Nat}{j n r:Nat}(hok:ok us)(hok':ok us')(hl:us'.length=us.length)(hj:j+n<us.length)(hlt:val us<val v*BB^(j+1))(hvn:val v<BB^n)(hV:0<val v)
 (he:val us'+BB^j*((val (us.drop j)/val v)*val v)=val us+BB^(j+n+1)*r) (hk:∀x,x<j∨j+n<x→us'[x]? =us[x]?) (hr:r≤1):
 r=0∧val us'+BB^j*((val (us.drop j)/val v)*val v)=val us∧val us'<val v*BB^j:=by
 obtain⟨low,e,hd,hlow⟩:=low_rest hok (show j≤us.length by omega) hV
 have hub':val us'<BB^(j+n+1):=val_lt_of_zeros hok' fun i y hi hy=>zero_above hok (up_bound hlt hvn) i y hi (by rw[←hk i (by omega)];exact hy)
 exact ar_exact e he hd hub' hr hlow
theorem round_back{us us' l v:List Nat}{j n r cc o:Nat}(hok:ok us)(hok':ok us')(hokl:ok l)(hl:us'.length=us.length)(hll:l.length=us.length)(hj:j+n<us.length)(hlt:val us<val v*BB^(j+1))(hvn:val v<BB^n)(hV:0<val v)
 (he:val us'+BB^j*((val (us.drop j)/val v+1)*val v)=val us+BB^(j+n+1)*r) (hk:∀x,x<j∨j+n<x→us'[x]? =us[x]?) (hr:r≤1)
 (ha:val l+BB^(j+n)*cc=val us'+BB^j*val v) (hkl:∀x,x<j∨j+n≤x→l[x]? =us'[x]?) (ho:l[j+n]? =some o) (hoB:o<BB) (hcc:cc≤1):
 r=1∧val (l.set (j+n) ((o+cc)%BB))+BB^j*((val (us.drop j)/val v)*val v)=val us∧val (l.set (j+n) ((o+cc)%BB))<val v*BB^j∧ok (l.set (j+n) ((o+cc)%BB))∧(l.set (j+n) ((o+cc)%BB)).length=us.length:=by
 obtain⟨q,e,b,c⟩:=low_rest hok (show j≤us.length by omega) hV;have a:ok (l.set (j+n) ((o+cc)%BB)):=ok_set hokl _ _ (Nat.mod_lt _ BB_pos)
 have d:val (l.set (j+n) ((o+cc)%BB))<BB^(j+n+1):=val_lt_of_zeros a fun i y hi hy=>zero_above hok (up_bound hlt hvn) i y hi (by
  rw[←hk i (by omega),←hkl i (by omega)]
  rwa [at_set_ne _ (by omega)]at hy)
 have f:=val_set ((o+cc)%BB) ho;rw[Nat.add_mul,Nat.mul_add,Nat.one_mul,Nat.mul_comm (BB^j) (val v)]at he;rw[Nat.mul_comm (BB^j) (val v)]at ha
 have hc:BB^(j+n)*((o+cc)%BB)=BB^(j+n)*o+BB^(j+n)*cc∨BB^(j+n)*((o+cc)%BB)+BB^(j+n+1)=BB^(j+n)*o+BB^(j+n)*cc:=by
  by_cases hc:o+cc<BB
  ·
   left;rw[Nat.mod_eq_of_lt hc,Nat.mul_add]
  right
  have g:(o+cc)%BB+BB=o+cc:=by
   rw[Nat.mod_eq_sub_mod (by omega),Nat.mod_eq_of_lt (by omega)]
   omega
  rw[Nat.pow_succ,←Nat.mul_add,g,Nat.mul_add]
 obtain⟨k,m,p⟩:=ar_back e he b hr c ha f d hc;exact⟨k,m,p,a,by simp[hll]⟩
theorem round_quo{ql:List Nat}{j Q V U0 u u':Nat}(hj:j<ql.length)(h:u+V*BB^(j+1)*val (ql.drop (j+1))=U0)(hu:u'+BB^j*(Q*V)=u):u'+V*BB^j*val ((ql.set j Q).drop j)=U0:=by
 have h1:(ql.set j Q)[j]? =some Q:=(by rw[List.getElem?_set_self hj]);rw[val_drop h1,show(ql.set j Q).drop (j+1)=ql.drop (j+1)by rw[List.drop_set_of_lt (by omega)],Nat.mul_add,←h,←hu,Nat.pow_succ];have a1:V*BB^j*Q=BB^j*(Q*V):=(by rw[Nat.mul_comm V,Nat.mul_assoc,Nat.mul_comm V]);have a2:V*BB^j*(BB*val (ql.drop (j+1)))=V*(BB^j*BB)*val (ql.drop (j+1)):=(by rw[←Nat.mul_assoc,Nat.mul_assoc V])
 omega
end Go.Fl.Nm
namespace Go.Proofs.YtgcjmhjjpbcfmaaGreatDoor
open Go.RowKit Go.Fl Go.Fl.Nm
def ClonePost(n:Nat)(l:List Nat)(w:World)(e:Ending)(w':World):Prop:=
  ∃(A:Option Addr) (c:Nat),e= .returned (.l A n c)∧Hid (Nw w' tU w.heap.size A n c l)∧Hid (Below w.heap.size w w')
theorem U_one(l:List Nat):∀u∈U l,u.oneCell'=true:=by
 intro u hu;unfold U at hu;obtain⟨x,_,rfl⟩:=List.mem_map.1 hu
 rfl
theorem clone_any(A:Option Addr)(n c:Nat)(l:List Nat)(w:World)(h:Sl w A n c l)(hn:n≤1000000):
 Calls Tryz.prog 149 #[.l A n c] w (ClonePost n l w):=by
 cases A with
 | none=>
  have hc:=h.nil rfl;have u:=h.cap
  obtain rfl:n=0:=by omega
  obtain rfl:l=[]:=List.eq_nil_of_length_eq_zero h.len;refine(Tryz.slices_Clone_nil 0 c w).mono ?_;rintro e w' ⟨rfl,rfl⟩
  exact⟨none,0,rfl,hI (Nw.none_ _ _ _),hI (Below.refl _ _)⟩
 | some ad=>
  obtain⟨j,a,b,d,i⟩:=info_parts Tryz.infoU32;have H:=hI h;clear h;have k:=hI (show(w.alloc (.cells #[] tU)).ownsRow w.heap.size tU 1 (.l (some ⟨w.heap.size,0,none⟩) 0 0) 0 []from⟨rfl,.inr ⟨w.heap.size,0,#[],rfl,Nat.le_refl _,Blk.new _ _ _,Nat.le_refl _,by unfold maxLen;omega,rfl,rfl⟩⟩)
  have m:∀w:World,(binOp .eql 73 (.l (some ad) n c) (.sn)).run Tryz.prog w= .ok (.b false) w:=fun w=>Lib.run_eql_slice_nil (h:=Tryz.underlying73) ..
  go_in
  go_wp2_with (at_builtin;refine wpList_append_rd _ rfl _ _ _ rfl w.heap.size 157 j _ 1 4 Tryz.underlying73 a b d i rfl (by omega) (.l (some ⟨w.heap.size,0,none⟩) 0 0) 0 [] rfl (by exact k.o) (some ad) n c (by simp) (U l) rfl (by exact H.o.rd.alloc _) (U_one l) (by unfold maxLen;omega) (by omega) (by simp) ?_)
  intro v' w2 hown2 hgrow;have o:=hI (show w2.ownsRow w.heap.size tU 1 v' n (U l)by simpa using hown2)
  have p:=hI (((Below.refl w.heap.size w).alloc (Nat.le_refl _) (.cells #[] tU)).trans (below_of_grown hgrow (by
   intro g hg
   have:w.heap.size=g:=by simpa [Value.ownBlock]using hg
   omega) (by simp)))
  clear hown2 hgrow a b d i m;go_wp2;go_ret;obtain⟨q,r,rfl,s⟩:=Nw.of_own o.o H.o.ok;exact⟨q,r,rfl,hI s,p⟩
def DPost(N M v u:Nat)(w:World)(e:Ending)(w':World):Prop:=
  ∃(A:Option Addr) (n c:Nat) (l:List Nat) (B:Option Addr) (m d:Nat) (r:List Nat),e= .returned (.tuple #[.l A n c,.l B m d])∧Hid (Nw w' tU w.heap.size A n c l)∧Hid (Nw w' tU w.heap.size B m d r)∧
    Hid (val l=v/u)∧Hid (val r=v%u)∧n≤N∧m≤M∧Hid (Below w.heap.size w w')
theorem trim_sl{w:World}{A:Option Addr}{n c:Nat}{a:List Nat}(ha:Sl w A n c a):tl a≤n∧Sl w A (tl a) c (a.take (tl a)):=by
 have hta:tl a≤n:=(by rw[←ha.len];exact tl_le a);exact⟨hta,ha.cut hta (by have:=ha.cap;omega) ha.capMax ha.nil⟩
theorem divide_less(A B:Option Addr)(n c m d:Nat)(a b:List Nat)(w:World)(ha:Sl w A n c a)(hb:Sl w B m d b)(hn:n≤100000)(hlt:val a<val b):
 Calls Tryz.prog 184 #[.l A n c,.l B m d] w (DPost n (max n m) (val a) (val b) w):=by
 obtain⟨M,i⟩:=trim_sl ha;obtain⟨N,j⟩:=trim_sl hb;have z:=hI ha;have C:=hI hb;have k:=hI i;have D:=hI j;have l:=hI (val_trim a);have E:=hI (val_trim b);have F:=hI (cmpN_lt hlt);have o:=hI hlt;clear ha hb i j hlt
 generalize hx:tl a=x at *
 generalize hy:tl b=y at *
 have G:=hI hx;have H:=hI hy;clear hx hy
 go_in
 go_wp2_with fail;refine(trim_any A n c a w z.o).mono ?_;rintro e w1 ⟨rfl,rfl⟩;rw[G.o];go_wp2_with fail;refine(trim_any B m d b w C.o).mono ?_;rintro e w1 ⟨rfl,rfl⟩;rw[H.o];go_wp2_with fail;refine(cmp_any A B x c y d _ _ w k.o D.o).mono ?_;rw[l.o,E.o,F.o];rintro e w1 ⟨rfl,q,g⟩;have I:=hI (show Sl w1 A x c (a.take x)by rw[g];exact k.o.drewN q);have J:=hI (show Below w.heap.size w w1 by rw[g];exact below_drewN (Below.refl _ _) q);have p:w1.heap.size=w.heap.size:=(by rw[g];rfl);have L:=hI p;clear g p;go_wp2_with fail;refine(clone_any A x c _ w1 I.o (by omega)).mono ?_;rintro e w2 ⟨r,s,rfl,t,u⟩;rw[L.o]at t u;go_wp2;refine bodyPost_ret (v:= .tuple #[.sn,.l r x s]) (by simp[results,Tryz.results184,go_sem]) rfl ?_;exact⟨none,0,0,[],r,x,s,_,rfl,hI (Nw.none_ _ _ _),t,hI (by rw[Nat.div_eq_of_lt o.o];rfl),hI (by rw[l.o,Nat.mod_eq_of_lt o.o]),by omega,by omega,hI (J.o.trans u.o)⟩
theorem divide_one(A B:Option Addr)(n c m d:Nat)(a b:List Nat)(w:World)(ha:Sl w A n c a)(hb:Sl w B m d b)(hn:n≤100000)(hle:val b≤val a)(h1:tl b=1):
 Calls Tryz.prog 184 #[.l A n c,.l B m d] w (DPost n (max n m) (val a) (val b) w):=by
 obtain⟨ac,u⟩:=trim_sl ha;obtain⟨N,k⟩:=trim_sl hb;rw[h1]at N k;obtain⟨O,P,y,Q,ad,g,o,z⟩:=k.at_ (i:=0) (by omega);subst Q
 have C:val b=y:=by
  have:=val_trim b;rw[h1,show(1:Nat)=0+1 from rfl,val_take_succ (x:=y) (by rw[List.getElem?_take_of_lt (by omega)]at g;exact g)]at this
  simp[val_nil]at this
  exact this.symm
 have D:0<y:=by
  have:y≠0:=tl_last (l:=b) (by omega) (by rw[h1];rw[List.getElem?_take_of_lt (by omega)]at g;exact g)
  omega
 have R:=hI ha;have S:=hI hb;have E:=hI u;have T:=hI k;have F:=hI (val_trim a);have G:=hI (val_trim b);rw[h1]at G;have ae:=cmpN_range (val a) (val b)
 have p:¬cmpN (val a) (val b)<0:=fun h=>by have:=(cmpN_neg _ _).1 h;omega
 generalize hcc:cmpN (val a) (val b)=cc at *
 have U:=hI hcc;have af:decide (cc<0)=false:=(by simpa using p);have r:=hI C;have V:=hI h1;clear ha hb u k hle C g h1 hcc p
 generalize hx:tl a=x at *
 have W:=hI hx;clear hx;unfold BB at o
 go_in
 go_wp2_with fail;refine(trim_any A n c a w R.o).mono ?_;rintro e w1 ⟨rfl,rfl⟩;rw[W.o];go_wp2_with fail;refine(trim_any _ m d b w S.o).mono ?_;rintro e w1 ⟨rfl,rfl⟩;rw[V.o];go_wp2_with fail;refine(cmp_any A _ x c 1 d _ _ w E.o T.o).mono ?_;rw[F.o,G.o,U.o];rintro e w1 ⟨rfl,q,j⟩;have X:=hI (show Sl w1 A x c (a.take x)by rw[j];exact E.o.drewN q);have Y:=hI (show Below w.heap.size w w1 by rw[j];exact below_drewN (Below.refl _ _) q);have H:=hI (show w1.heap.size=w.heap.size by rw[j];rfl);have p:w1.cell? ⟨O,P,none⟩=some (.int .u32 y):=(by rw[j];exact z);clear j z;go_wp2_with fail;refine(short_any A x c y _ w1 X.o (by omega) D o).mono ?_;rintro e w2 ⟨I,J,Z,rfl,L,M,s⟩;rw[H.o]at L s;rw[F.o,←r.o]at M ⊢;have t:=s.o.size;rw[H.o]at t;go_wp2;refine bodyPost_ret (v:= .tuple #[.l I x J,.l (some ⟨w2.heap.size,0,none⟩) 1 1]) (by simp[results,Tryz.results184,go_sem]) rfl ?_;have aa:val a%val b<BB:=Nat.lt_trans (Nat.mod_lt _ (by rw[r.o];exact D)) (by rw[r.o];exact o);have ab:=Blk.new w2 tU (UA [val a%val b]);refine⟨I,x,J,Z,_,1,1,[val a%val b],rfl,hI (L.o.alloc _),hI (Nw.of_blk (l:=[val a%val b]) ?_ (ok_cons.2 ⟨aa,ok_nil⟩) t rfl (by unfold maxLen;omega)),M,hI (by simp[val_cons,val_nil]),by omega,by omega,hI ((Y.o.trans s.o).alloc t _)⟩;exact ab
end Go.Proofs.YtgcjmhjjpbcfmaaGreatDoor
namespace Go.Fl.Nm
open Go.RowKit Go.Fl
theorem Sl.grown{w w':World}{A:Option Addr}{n c g:Nat}{l:List Nat}(h:Sl w A n c l)(hg:w.grownBy w' (some g))(hne:∀b o,A=some ⟨b,o,none⟩→b≠g):Sl w' A n c l:=
 ⟨h.1,h.2.1,h.2.2.1,h.2.2.2.1,h.2.2.2.2.1,h.rd.1,fun h0=>by
  obtain⟨b,off,hA,hb,hc⟩:=h.rd.2 h0;refine⟨b,off,hA,by have:=hg.size;omega,fun j u hu=>hg.cell (hc j u hu) ?_⟩;intro e;injection e with e
  exact hne b off hA e⟩
theorem norm_len{b l:List Nat}{y s t:Nat}(hb:ok b)(hl:ok l)(hy:tl b=y+1)(ht:b[y]? =some t)(hs:s+blen t=32)(hv:val l=val b*2^s):tl l=y+1:=by
 have h0:0<tl b:=(by omega);have hge:=val_ge h0;rw[hy]at hge;have hbl:=blen_val hb h0 (show b[tl b-1]? =some t by rw[hy];exact ht);rw[hy]at hbl;have hv0:val b≠0:=(by have:=Nat.pow_pos (n:=y+1-1) BB_pos;omega);have hlt:=(blen_spec hv0).2
 have hlt2:val l<BB^(y+1):=by
  rw[hv,BB_pow,←Nat.pow_mul];have h1:val b*2^s<2^blen (val b)*2^s:=Nat.mul_lt_mul_of_pos_right hlt (Nat.two_pow_pos s);rw[←Nat.pow_add,hbl]at h1;rw[show 32*(y+1)=32*(y+1-1)+blen t+s by omega];exact h1
 have hge2:BB^y≤val l:=by
  rw[hv];have:val b*1≤val b*2^s:=Nat.mul_le_mul_left _ (Nat.two_pow_pos s)
  simp at hge
  omega
 rw[tl_limbs hl];have h1:=limbs_len_le hlt2;have h2:val l≠0:=(by have:=Nat.pow_pos (n:=y) BB_pos;omega);have h3:=(limbs_len h2).2
 rcases Nat.lt_or_ge (limbs (val l)).length (y+1)with h | h
 ·
  have:BB^(limbs (val l)).length≤BB^y:=Nat.pow_le_pow_right BB_pos (by omega)
  omega
 omega
theorem div_start{a b u v:List Nat}{x m s:Nat}(ha:ok a)(hx:tl a=x)(hy:tl b=m+2)(hxy:m+2≤x)(hu:val u=val a*2^s)(hv:val v=val b*2^s):val u<val v*BB^(x+1-(m+2)):=by
 rw[hu,hv];have h1:=val_lt_tl ha;have h2:=val_ge (l:=b) (by omega);rw[hx]at h1;rw[hy]at h2;have h3:BB^(m+2-1)*BB^(x+1-(m+2))≤val b*BB^(x+1-(m+2)):=Nat.mul_le_mul_right _ h2;rw[←Nat.pow_add,show m+2-1+(x+1-(m+2))=x by omega]at h3;have h4:val a*2^s<val b*BB^(x+1-(m+2))*2^s:=Nat.mul_lt_mul_of_pos_right (by omega) (Nat.two_pow_pos s);rw[Nat.mul_assoc,Nat.mul_comm (2^s),←Nat.mul_assoc];exact h4
theorem div_finish{va vb s u q V:Nat}(hV:V=vb*2^s)(h:u+V*q=va*2^s)(hu:u<V):q=va/vb∧u/2^s=va%vb:=by
 have hp:0<2^s:=Nat.two_pow_pos s;have hV0:0<V:=(by omega)
 have h1:(va*2^s)/V=q:=by
  rw[←h,Nat.add_mul_div_left _ _ hV0,Nat.div_eq_of_lt hu];omega
 have h2:(va*2^s)%V=u:=by
  rw[←h,Nat.add_mul_mod_self_left,Nat.mod_eq_of_lt hu]
 rw[hV,Nat.mul_div_mul_right _ _ hp]at h1;rw[hV,Nat.mul_mod_mul_right]at h2;exact⟨h1.symm,by rw[←h2,Nat.mul_div_cancel _ hp]⟩
end Go.Fl.Nm
namespace Go.Proofs.YtgcjmhjjpbcfmaaGreatDoor
open Go.RowKit Go.Fl Go.Fl.Nm
theorem back_step{us l v:List Nat}{i j n y o cc:Nat}(hl:l.length=us.length)(hok:ok l)(hj:j+n<us.length)(hi:i<n)(hv:val l+BB^(j+i)*cc=val us+BB^j*val (v.take i))
 (hk:∀x,x<j∨j+i≤x→l[x]? =us[x]?) (hy:val (v.take (i+1))=val (v.take i)+BB^i*y) (ho:l[j+i]? =some o):
 (l.set (j+i) ((o+y+cc)%BB)).length=us.length∧ok (l.set (j+i) ((o+y+cc)%BB))∧
 val (l.set (j+i) ((o+y+cc)%BB))+BB^(j+(i+1))*((o+y+cc)/BB)=val us+BB^j*val (v.take (i+1))∧(∀x,x<j∨j+(i+1)≤x→(l.set (j+i) ((o+y+cc)%BB))[x]? =us[x]?):=by
 refine⟨by simp[hl],ok_set hok _ _ (Nat.mod_lt _ BB_pos),?_,fun x hx=>?_⟩
 ·
  have h1:=val_set ((o+y+cc)%BB) ho;have h2:=Nat.div_add_mod (o+y+cc) BB;rw[hy,Nat.mul_add,←Nat.mul_assoc,←Nat.pow_add,show j+(i+1)=j+i+1 by omega,Nat.pow_succ,Nat.mul_assoc];have h3:BB^(j+i)*(BB*((o+y+cc)/BB))+BB^(j+i)*((o+y+cc)%BB)=BB^(j+i)*(o+y+cc):=(by rw[←Nat.mul_add,h2]);rw[Nat.mul_add,Nat.mul_add]at h3
  omega
 rw[at_set_ne _ (by omega)];exact hk x (by omega)
theorem quiet_left2{P:Program}{f:FuncId}{args:Array Value}{w:World}{n:Nat}{v:Value}
 (h:Calls P f args (w.drewN n) fun e w'=>e= .returned v∧∃k,w'=(w.drewN n).drewN k):Calls P f args (w.drewN n) fun e w''=>e= .returned v∧∃m,w''=w.drewN m:=
 h.mono fun _ _ ⟨he,k,hm⟩=>⟨he,n+k,by rw[hm,drewN_drewN]⟩
theorem round_over{us us' v:List Nat}{j n r:Nat}(hok:ok us)(hj:j+n<us.length)(hV:0<val v)
 (he:val us'+BB^j*((val (us.drop j)/val v+1)*val v)=val us+BB^(j+n+1)*r) (hr:r≤1):r=1:=by
 obtain⟨low,e,hd,hlow⟩:=low_rest hok (show j≤us.length by omega) hV
 rcases Nat.eq_zero_or_pos r with h | h
 ·
  subst h;rw[Nat.mul_zero,Nat.add_mul,Nat.mul_add,Nat.one_mul,Nat.mul_comm (BB^j) (val v)]at he
  omega
 omega
theorem top_zero{us:List Nat}{k:Nat}(hok:ok us)(hk:k≤us.length)(h:val us<BB^k):val (us.take k)=val us:=by
 have e:=val_split us k hk
 rcases Nat.eq_zero_or_pos (val (us.drop k))with h0 | h0
 ·
  rw[h0]at e;omega
 have:BB^k*1≤BB^k*val (us.drop k):=Nat.mul_le_mul_left _ h0
 omega
def LongRel(w:World)(gu gq gv m x cv K U0:Nat)(v:List Nat)(k:Nat)(iv:Value)(wr:World):Prop:=
  ∃(us ql:List Nat),iv= .i ((k:Int)-1)∧k≤K∧Hid (us.length=x+1)∧Hid (ok us)∧Hid (Blk wr gu tU (UA us))∧Hid (ql.length=K)∧Hid (ok ql)∧Hid (Blk wr gq tU (UA ql))∧
    Hid (Sl wr (some ⟨gv,0,none⟩) (m+2) cv v)∧Hid (val us+val v*BB^k*val (ql.drop k)=U0)∧Hid (val us<val v*BB^k)∧Hid (Below w.heap.size w wr)
def BackRel(w:World)(g j n:Nat)(us v:List Nat)(k:Nat)(cv iv:Value)(wr:World):Prop:=
  ∃(i cc:Nat) (l:List Nat),iv= .i i∧cv= .int .u32 cc∧cc≤1∧i≤n∧k=n-i∧Hid (l.length=us.length)∧Hid (ok l)∧Hid (Blk wr g tU (UA l))∧
    Hid (val l+BB^(j+i)*cc=val us+BB^j*val (v.take i))∧Hid (∀x,x<j∨j+i≤x→l[x]? =us[x]?)∧Hid (w.grownBy wr (some g))
theorem divide_long(A B:Option Addr)(n c m' d:Nat)(a b:List Nat)(w:World)(ha:Sl w A n c a)(hb:Sl w B m' d b)(hn:n≤100000)(hle:val b≤val a)(m:Nat)(h1:tl b=m+2):
 Calls Tryz.prog 184 #[.l A n c,.l B m' d] w (DPost n (max n m') (val a) (val b) w):=by
 obtain⟨ei,bq⟩:=trim_sl ha;obtain⟨c0,P⟩:=trim_sl hb
 have br:tl b≤tl a:=by
  rcases Nat.lt_or_ge (tl a) (tl b)with h | h
  ·
   have:=val_lt_of_len ha.ok h;omega
  exact h
 rw[h1]at c0 P br;obtain⟨b1,o1,t,hB,ej,ht,ay,bv⟩:=P.at_ (i:=m+1) (by omega);subst hB;have az:b[m+1]? =some t:=(by rwa [List.getElem?_take_of_lt (by omega)]at ht);have c2:t≠0:=tl_last (l:=b) (by omega) (by rw[h1];exact az);have HT:=hI az;have c4:blen t≤32:=blen_le (by rw[←BB_pow];exact ay);have c5:=blen_pos c2;have HA:=hI ha;have HB:=hI hb;have bz:=hI bq;have b0:=hI P;have b3:=hI (val_trim a);have a0:=hI (val_trim b);rw[h1]at a0;have ek:=cmpN_range (val a) (val b)
 have Q:¬cmpN (val a) (val b)<0:=fun h=>by have:=(cmpN_neg _ _).1 h;omega
 generalize hcc:cmpN (val a) (val b)=cc at *
 have c6:=hI hcc;have el:decide (cc<0)=false:=(by simpa using Q);have R:=hI h1
 obtain⟨s,hs⟩:∃s:Nat,s+blen t=32:=⟨32-blen t,by omega⟩
 have c7:=hI (show(32:Int)-(Lib.bitLen t:Nat)=s by
  rw[bitLen_blen t (by unfold BB at ay;omega)];omega)
 have HS:=hI hs;have em:s<32:=(by omega);clear ha hb bq P hle h1 hcc Q ht az hs c4 c5
 generalize hx:tl a=x at *
 have HX:=hI hx;clear hx;unfold BB at ay;have en:((m:Int)+2==1)=false:=(by rw[beq_eq_false_iff_ne];omega)
 go_in
 go_wp2_with fail;refine(trim_any A n c a w HA.o).mono ?_;rintro e w1 ⟨rfl,rfl⟩;rw[HX.o];go_wp2_with fail;refine(trim_any _ m' d b w HB.o).mono ?_;rintro e w1 ⟨rfl,rfl⟩;rw[R.o];go_wp2_with fail;refine(cmp_any A _ x c (m+2) d _ _ w bz.o b0.o).mono ?_;rw[b3.o,a0.o,c6.o];rintro e w1 ⟨rfl,q,L⟩;have c9:=hI (show Sl w1 A x c (a.take x)by rw[L];exact bz.o.drewN q);have da:=hI (show Sl w1 (some ⟨b1,o1,none⟩) (m+2) d (b.take (m+2))by rw[L];exact b0.o.drewN q);have db:=hI (show Below w.heap.size w w1 by rw[L];exact below_drewN (Below.refl _ _) q);have ac:=hI (show w1.heap.size=w.heap.size by rw[L];rfl);have Q:w1.cell? ⟨b1,o1+(m+1),none⟩=some (.int .u32 t):=(by rw[L];exact bv);clear L bv;go_wp2_with fail;refine(Tryz.bits_LeadingZeros32 t w1 (by omega) (by omega)).mono ?_;rintro e w1' ⟨rfl,rfl⟩;rw[Int.toNat_natCast,c7.o];go_wp2_with fail;refine(shl_exact A x c s _ w1' c9.o (by omega) (by omega)).mono ?_;rw[show s/32+tl (a.take x)+1=x+1 by rw[←HX.o,tl_take];omega,b3.o];rintro e w2 ⟨lu,rfl,D,dc,dd,a3,b5⟩;have de:w1'.heap.size<w2.heap.size:=D.o.lt;go_wp2_with fail;refine(shl_exact _ (m+2) d s _ w2 (da.o.below b5.o) (by omega) (by omega)).mono ?_;rw[show s/32+tl (b.take (m+2))+1=m+3 by rw[←R.o,tl_take,R.o];omega,a0.o];rintro e w3 ⟨p,rfl,a4,b6,a5,b7,b8⟩;have eo:w2.heap.size<w3.heap.size:=a4.o.lt;have ad:=hI (show tl p=m+2 from norm_len HB.o.ok a5.o R.o HT.o HS.o b7.o);have F:=hI (Nw.of_blk (base:=0) a4.o a5.o (Nat.zero_le _) b6.o (by unfold maxLen;omega)).sl;go_wp2_with fail;refine(trim_any _ _ _ p w3 F.o).mono ?_;rintro e w3' ⟨rfl,rfl⟩;rw[ad.o];have df:=hI (F.o.cut (m:=m+2) (c':=m+3) (by omega) (by omega) (by unfold maxLen;omega) (fun h=>by cases h));have b9:=hI (show val (p.take (m+2))=val b*2^s by rw[←b7.o,←val_trim p,ad.o]);have dg:=hI (D.o.below b8.o de);have ca:=hI ((db.o.trans (b5.o.mono (by rw[ac.o];exact Nat.le_refl _))).trans (b8.o.mono (by have:=ac.o;omega)));have a6:w.heap.size≤w1'.heap.size:=(by rw[ac.o];exact Nat.le_refl _);have ep:=a3;clear D F a4
 generalize hgu:w1'.heap.size=gu at *
 generalize hgv:w2.heap.size=gv at *
 clear hgu hgv ac;have eq:decide ((x:Int)+1≤x)=false:=(by simp;omega);go_wp2
 go_loop [9] (fun u=>u= .l (some ⟨gu,0,none⟩) (x+1) (x+1)) (fun _=>0)
 case atStart=>rfl
 subst hrel
 obtain⟨K,hK⟩:∃K,x+1=(m+2)+K:=⟨x+1-(m+2),by omega⟩
 have dh:=make_u32 K K ((x:Int)+1-(m+2)) ((x:Int)+1-(m+2)) (by omega) (by omega) (by omega) (by omega);have HK:=hI hK;have di:((x:Int)+1-(m+2))-1=(K:Int)-1:=(by omega);clear hK;go_wp2_with fail;clear dh;clear di
 generalize hgq:w3.heap.size=gq at *
 generalize hw4:w3.alloc (.cells (UA (zeros K)) tU)=w4 at *
 have dj:=hI (show Blk w4 gq tU (UA (zeros K))by rw[←hw4,←hgq];exact Blk.new _ _ _);have dk:=hI (show Blk w4 gu tU (UA lu)by rw[←hw4];exact dg.o.alloc _);have dl:=hI (show Sl w4 (some ⟨gv,0,none⟩) (m+2) (m+3) (p.take (m+2))by rw[←hw4];exact df.o.alloc _);have dm:=hI (show Below w.heap.size w w4 by rw[←hw4];exact ca.o.alloc (by have:=ca.o.size;omega) _);have af:=hI (show gv<gq by omega);clear hgq hw4
 have I:gu≠gq:=fun h=>by have:=af.o;omega
 have S:gv≠gu:=(by omega);have cb:w.heap.size≤gq:=(by have:=af.o;omega)
 have cd:gv≠gq:=fun h=>by have:=af.o;omega
 have M:=hI (show(p.take (m+2)).length=m+2 by rw[List.length_take,b6.o];omega);have ag:=hI (ok_take a5.o (m+2))
 obtain⟨v1,ah⟩:∃v1,(p.take (m+2))[m+1]? =some v1:=⟨_,List.getElem?_eq_getElem (by rw[M.o];omega)⟩
 obtain⟨v2,a7⟩:∃v2,(p.take (m+2))[m]? =some v2:=⟨_,List.getElem?_eq_getElem (by rw[M.o];omega)⟩
 have ce:=ok_at ag.o ah;have cf:=ok_at ag.o a7
 have a8:0<v1:=by
  have:=tl_last (l:=p) (x:=v1) (by rw[ad.o];omega) (by rw[ad.o];rwa [List.getElem?_take_of_lt (by omega)]at ah)
  omega
 have a9:=hI ah;have ai:=hI a7;have ba:=hI (show val (p.take (m+2))<BB^(m+2)by have:=val_lt ag.o;rwa [M.o]at this)
 have bb:=hI (show 0<val (p.take (m+2))by
  have:=val_take_succ a9.o;rw[List.take_of_length_le (by rw[M.o];omega)]at this;rw[this];have:=Nat.mul_pos (Nat.pow_pos (n:=m+1) BB_pos) a8
  omega)
 have dn:=hI (div_start (u:=lu) (v:=p.take (m+2)) (s:=s) HA.o.ok HX.o R.o br a3.o b9.o);unfold BB at ce cf;clear ah a7
 generalize hV:p.take (m+2)=V at *
 clear hV
 go_loopg [13] K (LongRel w gu gq gv m x (m+3) K (val a*2^s) V)
 case atStart=>
  refine⟨lu,zeros K,rfl,Nat.le_refl _,dc,dd,dk,hI (zeros_len _),hI (ok_zeros _),dj,dl,hI ?_,hI ?_,dm⟩
  ·
   rw[List.drop_eq_nil_of_le (by rw[zeros_len];omega),val_nil,a3.o];omega
  have:=dn.o;rwa [show x+1-(m+2)=K by have:=HK.o;omega]at this
 obtain⟨T,ql,rfl,hk,k,z,D,N,bc,cg,F,bd,aj,ak⟩:=hrel
 cases gk with
 | zero=>
  rw[show((0:Nat):Int)-1= -1 by omega];have U:=bd.o;have hL:=aj.o;rw[Nat.pow_zero,Nat.mul_one]at U hL;rw[List.drop_zero]at U;have HF:=hI (div_finish b9.o U hL);have dp:=hI (top_zero z.o (by rw[k.o];omega) (Nat.lt_trans hL ba.o));have dq:=hI ((Nw.of_blk (base:=0) D.o z.o (Nat.zero_le _) k.o (by unfold maxLen;omega)).sl.cut (m:=m+2) (c':=x+1) (by omega) (by omega) (by unfold maxLen;omega) (fun h=>by cases h));have dr:=hI (Nw.of_blk (base:=w.heap.size) cg.o bc.o (by have:=af.o;omega) N.o (by have:=HK.o;unfold maxLen;omega));clear U hL;go_wp2_with fail;refine(shr_any _ (m+2) (x+1) s _ wr dq.o (by omega) (by omega)).mono ?_;rintro e w6 ⟨C,nr,cr,lr,rfl,HN,dw,es,ci⟩;go_wp2;refine bodyPost_ret (v:= .tuple #[.l (some ⟨gq,0,none⟩) K K,.l C nr cr]) (by simp[results,Tryz.results184,go_sem]) rfl ?_;refine⟨_,_,_,ql,_,_,_,lr,rfl,hI (dr.o.below ci.o),hI (HN.o.base ak.o.size),hI HF.o.1,hI ?_,by have:=HK.o;omega,by omega,ak.o.t ci⟩;rw[dw.o,dp.o]
  exact HF.o.2
 | succ j=>
  rw[show((j+1:Nat):Int)-1=j by omega];have dx:=HK.o
  obtain⟨t1,am⟩:∃t1,T[j+(m+2)]? =some t1:=⟨_,List.getElem?_eq_getElem (by rw[k.o];omega)⟩
  obtain⟨t2,an⟩:∃t2,T[j+(m+1)]? =some t2:=⟨_,List.getElem?_eq_getElem (by rw[k.o];omega)⟩
  obtain⟨t3,ao⟩:∃t3,T[j+m]? =some t3:=⟨_,List.getElem?_eq_getElem (by rw[k.o];omega)⟩
  have HG:=hI (round_guess z.o ag.o M.o (by rw[k.o];omega) aj.o am an ao a9.o ai.o a8);have Q:wr.cell? ⟨gu,j+(m+2),none⟩=some (.int .u32 t1):=blkU_cell D.o am;have dy:wr.cell? ⟨gu,j+(m+1),none⟩=some (.int .u32 t2):=blkU_cell D.o an;have dz:wr.cell? ⟨gu,j+m,none⟩=some (.int .u32 t3):=blkU_cell D.o ao
  have d0:wr.cell? ⟨gv,m+1,none⟩=some (.int .u32 v1):=by
   have:=F.o.rd.2 (by omega);obtain⟨b2,o2,h2,_,h3⟩:=this
   cases h2
   simpa using h3 _ _ (U_at V _ _ a9.o)
  have d1:wr.cell? ⟨gv,m,none⟩=some (.int .u32 v2):=by
   have:=F.o.rd.2 (by omega);obtain⟨b2,o2,h2,_,h3⟩:=this
   cases h2
   simpa using h3 _ _ (U_at V _ _ ai.o)
  have d2:=ok_at z.o am;have cl:=ok_at z.o an;have cm:=ok_at z.o ao;unfold BB at d2 cl cm;have d3:=HG.o.1;have bg:=HG.o.2.1;unfold BB at bg;have HC:=hI HG.o.2.2;have KG:=hI (fun W=>guess_any t1 t2 t3 v1 v2 W d3 cl cm ce a8 cf);have Y:j+(m+2)<x+1:=(by omega);have d5:((j:Int)+(m+2)).toNat=j+(m+2):=(by omega);have d6:((j:Int)+(m+2)-1).toNat=j+(m+1):=(by omega);have d7:((j:Int)+(m+2)-2).toNat=j+m:=(by omega);have d8:((m:Int)+2-1).toNat=m+1:=(by omega);have d9:((m:Int)+2-2).toNat=m:=(by omega);clear HG am an ao dx
  generalize guessF t1 t2 t3 v1 v2=X at *
  go_wp2
  go_quiet ((go_at_call 227;exact quiet_left2 (KG.o _)))
  clear d5 d6 d7 d8 d9;go_wp2_with fail;rw[show j+(m+2)+1-j=m+2+1 by omega];refine(take_any gu j (m+2) (x+1-j) (m+3) X (some ⟨gv,0,none⟩) T V _ (D.o.drewN nq) z.o (by rw[k.o];exact Y) (by rw[k.o];omega) (F.o.drewN nq) (fun b o h=>by cases h;exact S) bg).mono ?_;rintro e w5 ⟨bh,r,rfl,hr,J,aq,co,bj,cp,bk⟩;have bl:=hI ((F.o.drewN nq).grown bk.o (fun b o h=>by cases h;exact S));have ar:=hI ((cg.o.drewN nq).grown bk.o (fun h=>by injection h with h;exact I h.symm));have bm:=hI ((below_drewN ak.o nq).trans (below_of_grown bk.o (fun g h=>by cases h;exact a6) (by have:=ak.o.size;exact this)))
  obtain⟨qo,cs⟩:∃o,ql[j]? =some o:=⟨_,List.getElem?_eq_getElem (by rw[N.o];omega)⟩
  have ct:=hI cs;clear Q dy dz d0 d1 cs KG
  rcases HC.o with hC | hC
  ·
   rw[hC]at bj;have G:=hI (round_exact z.o aq.o J.o (by rw[k.o];exact Y) aj.o ba.o bb.o bj.o cp.o hr);have h0:=G.o.1;subst h0;have Z:=hI (round_quo (ql:=ql) (j:=j) (by rw[N.o];omega) bd.o G.o.2.1);rw[←hC]at Z;clear hC;have eb:decide ((0:Nat)=1)=false:=rfl;have et:w5.cell? ⟨gq,j,none⟩=some (.int .u32 qo):=blkU_cell ar.o ct.o;have eu:w5.frozen? ⟨gq,j,none⟩=false:=ar.o.frozen _;go_wp2
   go_roundg j
   case measure=>omega
   refine⟨bh,ql.set j X,rfl,by omega,hI (by rw[J.o,k.o]),aq,hI (co.o.grown (grown_setCell _ gq j _) (fun h=>by injection h with h;exact I h)),hI (by rw[List.length_set,N.o]),hI (ok_set bc.o _ _ bg),hI (blkU_set ar.o j X),hI (bl.o.grown (grown_setCell _ gq j _) (fun b o h=>by cases h;exact cd)),Z,hI G.o.2.2,hI (bm.o.setCell cb _)⟩
  have au:=bj.o;rw[hC]at au;have h1:=round_over z.o (by rw[k.o];exact Y) bb.o au hr;have ai:=hI au;subst h1;clear au;have ev:1≤X:=(by rw[hC];exact Nat.le_add_left _ _);have ec:=hI hC;clear hC;have eb:decide ((1:Nat)=1)=true:=rfl;go_wp2
  go_loopg [15,125] (m+2) (BackRel w5 gu j (m+2) bh V)
  case atStart=>exact⟨0,0,bh,rfl,rfl,by omega,by omega,rfl,hI rfl,aq,co,hI (by simp[val_nil]),hI (fun _ _=>rfl),hI (grown_refl _ _)⟩
  obtain⟨i,H,l,rfl,rfl,cu,hi,rfl,av,aw,O,cv,cw,aa⟩:=hrel
  by_cases hin:i<m+2
  ·
   obtain⟨b2,o2,y,hA,P,hy,cz,bn⟩:=bl.o.at_ hin
   cases hA
   have ex:wr.cell? ⟨gv,i,none⟩=some (.int .u32 y):=by
    rw[Nat.zero_add]at bn;exact aa.o.cell bn (by intro h;injection h with h;exact S h)
   obtain⟨o,E⟩:∃o,l[j+i]? =some o:=⟨_,List.getElem?_eq_getElem (by rw[av.o,J.o,k.o];omega)⟩
   have ab:=ok_at aw.o E;have ee:wr.cell? ⟨gu,j+i,none⟩=some (.int .u32 o):=blkU_cell O.o E;have ef:wr.frozen? ⟨gu,j+i,none⟩=false:=O.o.frozen _;have ax:=hI (back_step av.o aw.o (by rw[J.o,k.o];exact Y) hin cv.o cw.o (val_take_succ hy) E);unfold BB at cz ab;clear bn hy E;go_wp2_with fail;refine(add32_any o y H _ ab cz cu).mono ?_;rintro e w6 ⟨rfl,rfl⟩;go_wp2
   go_roundg (m+2-(i+1))
   case measure=>omega
   refine⟨i+1,(o+y+H)/BB,l.set (j+i) ((o+y+H)%BB),by go_num,by unfold BB;simp,by unfold BB;omega,by omega,rfl,hI ax.o.1,hI ax.o.2.1,hI ?_,hI ax.o.2.2.1,hI ax.o.2.2.2,hI (grown_trans aa.o (grown_setCell _ _ _ _))⟩;have:=blkU_set O.o (j+i) ((o+y+H)%BB)
   unfold BB at this ⊢
   simpa using this
  obtain rfl:i=m+2:=by omega
  obtain⟨o,E⟩:∃o,l[j+(m+2)]? =some o:=⟨_,List.getElem?_eq_getElem (by rw[av.o,J.o,k.o];omega)⟩
  have ab:=ok_at aw.o E;have bo:=cv.o;rw[List.take_of_length_le (by rw[M.o];omega)]at bo;have G:=hI (round_back z.o aq.o aw.o J.o (by rw[av.o,J.o]) (by rw[k.o];exact Y) aj.o ba.o bb.o ai.o cp.o hr bo cw.o E ab cu);have Z:=hI (round_quo (ql:=ql) (j:=j) (by rw[N.o];omega) bd.o G.o.2.1);rw[show val (T.drop j)/val V=X-1 by rw[ec.o];rfl]at Z;have bp:=hI (ar.o.grown aa.o (fun h=>by injection h with h;exact I h.symm));have eg:=hI (bm.o.trans (below_of_grown aa.o (fun g h=>by cases h;exact a6) (by have:=bm.o.size;exact this)));have eh:=hI (bl.o.grown aa.o (fun b o h=>by cases h;exact S));have ee:wr.cell? ⟨gu,j+(m+2),none⟩=some (.int .u32 o):=blkU_cell O.o E;have ef:wr.frozen? ⟨gu,j+(m+2),none⟩=false:=O.o.frozen _;unfold BB at ab
  clear bo E;have U:(((o:Int)+H)%4294967296)=(((o+H)%BB:Nat):Int):=(by unfold BB;simp)
  have ey:∀v:Value,(wr.setCell ⟨gu,j+(m+2),none⟩ v).cell? ⟨gq,j,none⟩=some (.int .u32 qo):=fun v=>(grown_setCell wr gu (j+(m+2)) v).cell (blkU_cell bp.o ct.o) (fun h=>by injection h with h;exact I h.symm)
  have ez:∀v:Value,(wr.setCell ⟨gu,j+(m+2),none⟩ v).frozen? ⟨gq,j,none⟩=false:=fun v=>(bp.o.grown (grown_setCell wr gu (j+(m+2)) v) (fun h=>by injection h with h;exact I h.symm)).frozen _
  go_wp2
  go_roundg j
  case measure=>omega
  refine⟨l.set (j+(m+2)) ((o+H)%BB),ql.set j (X-1),rfl,by omega,hI (by rw[G.o.2.2.2.2,k.o]),hI G.o.2.2.2.1,hI ?_,hI (by rw[List.length_set,N.o]),hI (ok_set bc.o _ _ (by unfold BB;omega)),hI ?_,hI ((eh.o.grown (grown_setCell _ gu _ _) (fun b o h=>by cases h;exact S)).grown (grown_setCell _ gq j _) (fun b o h=>by cases h;exact cd)),Z,hI G.o.2.2.1,hI ((eg.o.setCell a6 _).setCell cb _)⟩
  ·
   refine Blk.grown ?_ (grown_setCell _ gq j _) (fun h=>by injection h with h;exact I h);have:=blkU_set O.o (j+(m+2)) ((o+H)%BB)
   unfold BB at this ⊢
   simpa using this
  rw[show(X:Int)-1=((X-1:Nat):Int)by omega];exact blkU_set (bp.o.grown (grown_setCell wr gu (j+(m+2)) _) (fun h=>by injection h with h;exact I h.symm)) j (X-1)
theorem divide_any(A B:Option Addr)(n c m d:Nat)(a b:List Nat)(w:World)(ha:Sl w A n c a)(hb:Sl w B m d b)(hn:n≤100000)(h0:0<val b):
 Calls Tryz.prog 184 #[.l A n c,.l B m d] w (DPost n (max n m) (val a) (val b) w):=by
 rcases Nat.lt_or_ge (val a) (val b)with h | h
 ·
  exact divide_less A B n c m d a b w ha hb hn h
 have ht:tl b≠0:=fun e=>by have:=val_zero_iff.2 e;omega
 by_cases h1:tl b=1
 ·
  exact divide_one A B n c m d a b w ha hb hn h h1
 exact divide_long A B n c m d a b w ha hb hn h (tl b-2) (by omega)
def ResV(v:Nat)(l:List Nat)(er:Int):Prop:=(er=0∧l=limbs v∧(limbs v).length≤256)∨(er=9∧l=[]∧256<(limbs v).length)
def Res(base v:Nat)(w:World)(e:Ending)(w':World):Prop:=
  ∃(A:Option Addr) (n:Nat) (l:List Nat) (er:Int),e= .returned (.tuple #[.l A n n,.i er])∧Hid (Nw w' tU base A n n l)∧Hid (ResV v l er)∧Hid (Below w.heap.size w w')
theorem ResV.len{v:Nat}{l:List Nat}{er:Int}(h:ResV v l er):l.length≤256:=by
 rcases h with⟨_,rfl,h⟩ | ⟨_,rfl,_⟩
 ·
  exact h
 simp
theorem done_any(A:Option Addr)(n c:Nat)(l:List Nat)(w:World)(base:Nat)(h:Nw w tU base A n c l):
 Calls Tryz.prog 190 #[.l A n c] w (Res base (val l) w):=by
 have H:=hI h;have s:=h.sl.max;have m:=h.sl.capMax;have d:=h.sl.nil;have o:tl l≤n:=(by rw[←h.sl.len];exact tl_le l);have t:=h.sl.cap;have p:=hI (trim_limbs h.sl.ok);have g:=hI (tl_limbs h.sl.ok);have i:=hI d;clear h d
 generalize hk:tl l=k at *
 have q:=hI hk;clear hk
 go_in
 go_wp2_with fail;refine(trim_any A n c l w H.o.sl).mono ?_;rintro e w1 ⟨rfl,rfl⟩;rw[q.o];go_wp2_with fail;refine(longFn_natural.one A k c _ (by omega)).mono ?_;rintro e w1 ⟨rfl,b⟩;have r:=hI (show Nw w1 tU base A n c l by rw[b];exact H.o.alloc _);have j:=hI (show Below w.heap.size w w1 by rw[b];exact(Below.refl _ _).alloc (Nat.le_refl _) _);clear b
 by_cases hb:256<k
 ·
  have a:decide (256<k)=true:=(by simpa using hb);rw[a];clear a;go_wp2;refine bodyPost_ret (v:= .tuple #[.sn,.i 9]) (by simp[results,Tryz.results190,go_sem]) rfl ?_;exact⟨none,0,[],9,rfl,hI (Nw.none_ _ _ _),hI (.inr ⟨rfl,rfl,by rw[←g.o];exact hb⟩),j⟩
 have a:decide (256<k)=false:=(by simpa using hb);rw[a];clear a;go_wp2_with fail;refine(clip_any A k c w1 (by omega) m i.o).mono ?_;rintro e w2 ⟨rfl,rfl⟩;go_wp2;refine bodyPost_ret (v:= .tuple #[.l A k k,.i 0]) (by simp[results,Tryz.results190,go_sem]) rfl ?_;refine⟨A,k,limbs (val l),0,rfl,hI ?_,hI (.inl ⟨rfl,rfl,by rw[←g.o];omega⟩),j⟩;rw[←p.o];exact r.o.cut o (Nat.le_refl _) (by omega) (fun h=>by have:=i.o h;omega)
theorem nAdd_ok(A B:Option Addr)(n c m d:Nat)(a b:List Nat)(w:World)(ha:Sl w A n c a)(hb:Sl w B m d b)(hn:n≤256)(hm:m≤256):
 Calls Tryz.prog 231 #[.l A n c,.l B m d] w (Res w.heap.size (val a+val b) w):=by
 have p:=hI ha;have q:=ha.max;have r:=hI hb;have s:=hb.max;have j:decide (256<n∨256<m)=false:=(by simp;omega);clear ha hb
 go_in
 go_wp2_with fail;refine(longFn_natural.two A B n c m d _ q s).mono ?_;rintro e w1 ⟨rfl,g⟩;rw[j];clear j;have t:=hI (show Sl w1 A n c a by rw[g];exact p.o.alloc _);have u:=hI (show Sl w1 B m d b by rw[g];exact r.o.alloc _);have i:=hI (show Below w.heap.size w w1 by rw[g];exact(Below.refl _ _).alloc (Nat.le_refl _) _);clear g;go_wp2_with fail;refine(add_any A B n c m d a b w1 t.o u.o (by omega) (by omega)).mono ?_;rintro e w2 ⟨C,x,z,l,rfl,E,F,L,k⟩;go_wp2_with fail;refine(done_any C x z l w2 w.heap.size (E.o.base i.o.size)).mono ?_;rw[F.o];rintro e w3 ⟨D,y,G,o,rfl,H,I,J⟩;go_wp2;refine bodyPost_ret (v:= .tuple #[.l D y y,.i o]) (by simp[results,Tryz.results231,go_sem]) rfl ?_;exact⟨D,y,G,o,rfl,H,I,hI ((i.o.trans (k.o.mono i.o.size)).trans (J.o.mono (Nat.le_trans i.o.size k.o.size)))⟩
theorem nSub_ok(A B:Option Addr)(n c m d:Nat)(a b:List Nat)(w:World)(ha:Sl w A n c a)(hb:Sl w B m d b)(hn:n≤256)(hm:m≤256)(hle:val b≤val a):
 Calls Tryz.prog 232 #[.l A n c,.l B m d] w (Res w.heap.size (val a-val b) w):=by
 have R:decide (cmpN (val a) (val b)<0)=false:=(by simp only[decide_eq_false_iff_not];intro h;have:=(cmpN_neg _ _).1 h;omega);have S:=cmpN_range (val a) (val b);have t:=hI ha;have u:=ha.max;have z:=hI hb;have E:=hb.max;have k:decide (256<n∨256<m)=false:=(by simp;omega);clear ha hb
 go_in
 go_wp2_with fail;refine(longFn_natural.two A B n c m d _ u E).mono ?_;rintro e w1 ⟨rfl,g⟩;rw[k];clear k;have o:=hI (show Sl w1 A n c a by rw[g];exact t.o.alloc _);have p:=hI (show Sl w1 B m d b by rw[g];exact z.o.alloc _);have F:=hI (show Below w.heap.size w w1 by rw[g];exact(Below.refl _ _).alloc (Nat.le_refl _) _);clear g
 generalize hcc:cmpN (val a) (val b)=cc at *
 have G:=hI hcc;clear hcc;go_wp2_with fail;refine(cmp_any A B n c m d a b w1 o.o p.o).mono ?_;rw[G.o];rintro e w2 ⟨rfl,q,i⟩;have H:=hI (show Sl w2 A n c a by rw[i];exact o.o.drewN q);have I:=hI (show Sl w2 B m d b by rw[i];exact p.o.drewN q);have j:=hI (show Below w.heap.size w w2 by rw[i];exact below_drewN F.o q);clear i;go_wp2_with fail;refine(sub_any A B n c m d a b w2 H.o I.o (by omega) (by omega) hle).mono ?_;rintro e w2' ⟨C,x,J,l,rfl,L,M,T,r⟩;go_wp2_with fail;refine(done_any C x J l w2' w.heap.size (L.o.base j.o.size)).mono ?_;rw[M.o];rintro e w3 ⟨D,y,N,s,rfl,O,P,Q⟩;go_wp2;refine bodyPost_ret (v:= .tuple #[.l D y y,.i s]) (by simp[results,Tryz.results232,go_sem]) rfl ?_;exact⟨D,y,N,s,rfl,O,P,hI ((j.o.trans (r.o.mono j.o.size)).trans (Q.o.mono (Nat.le_trans j.o.size r.o.size)))⟩
theorem nMul_ok(A B:Option Addr)(n c m d:Nat)(a b:List Nat)(w:World)(ha:Sl w A n c a)(hb:Sl w B m d b)(hn:n≤256)(hm:m≤256):
 Calls Tryz.prog 280 #[.l A n c,.l B m d] w (Res w.heap.size (val a*val b) w):=by
 have r:=hI ha;have s:=ha.max;have t:=hI hb;have u:=hb.max;have o:decide (256<n∨256<m)=false:=(by simp;omega);clear ha hb
 go_in
 go_wp2_with fail;refine(longFn_natural.two A B n c m d _ s u).mono ?_;rintro e w1 ⟨rfl,g⟩;rw[o];clear o;have j:=hI (show Sl w1 A n c a by rw[g];exact r.o.alloc _);have k:=hI (show Sl w1 B m d b by rw[g];exact t.o.alloc _);have i:=hI (show Below w.heap.size w w1 by rw[g];exact(Below.refl _ _).alloc (Nat.le_refl _) _);clear g;have z:=hI (val_trim a);have E:=hI (val_trim b);have R:=(trim_sl j.o).1;have S:=(trim_sl k.o).1;have F:=hI (trim_sl j.o).2;have G:=hI (trim_sl k.o).2
 generalize hka:tl a=ka at *
 generalize hkb:tl b=kb at *
 have H:=hI hka;have I:=hI hkb;clear hka hkb;go_wp2_with fail;refine(trim_any A n c a w1 j.o).mono ?_;rintro e w1' ⟨rfl,rfl⟩;rw[H.o];go_wp2_with fail;refine(trim_any B m d b w1 k.o).mono ?_;rintro e w1' ⟨rfl,rfl⟩;rw[I.o];go_wp2_with fail;refine(mul_any A B ka c kb d _ _ w1 F.o G.o (by omega) (by omega)).mono ?_;rw[z.o,E.o];rintro e w2 ⟨C,x,J,l,rfl,L,M,T,p⟩;go_wp2_with fail;refine(done_any C x J l w2 w.heap.size (L.o.base i.o.size)).mono ?_;rw[M.o];rintro e w3 ⟨D,y,N,q,rfl,O,P,Q⟩;go_wp2;refine bodyPost_ret (v:= .tuple #[.l D y y,.i q]) (by simp[results,Tryz.results280,go_sem]) rfl ?_;exact⟨D,y,N,q,rfl,O,P,hI ((i.o.trans (p.o.mono i.o.size)).trans (Q.o.mono (Nat.le_trans i.o.size p.o.size)))⟩
theorem nShl_ok(A:Option Addr)(n c:Nat)(k:Int)(a:List Nat)(w:World)(ha:Sl w A n c a)(hn:n≤256)(hk:0≤k)(hk1:k≤65536):
 Calls Tryz.prog 185 #[.l A n c,.i k] w (Res w.heap.size (val a*2^k.toNat) w):=by
 have m:=hI ha;have o:=ha.max;have g:decide (256<n)=false:=(by simp;omega);clear ha
 go_in
 go_wp2_with fail;refine(longFn_natural.one A n c _ o).mono ?_;rintro e w1 ⟨rfl,d⟩;rw[g];clear g;have p:=hI (show Sl w1 A n c a by rw[d];exact m.o.alloc _);have b:=hI (show Below w.heap.size w w1 by rw[d];exact(Below.refl _ _).alloc (Nat.le_refl _) _);clear d;have F:decide (k<0)=false:=(by simp;omega);have G:decide (65536<k)=false:=(by simp;omega)
 obtain⟨q,rfl⟩:∃q:Nat,k=q:=⟨k.toNat,by omega⟩
 rw[Int.toNat_natCast];clear hk;go_wp2_with fail;refine(shl_any A n c q a w1 p.o (by omega) (by omega)).mono ?_;rintro e w2 ⟨C,x,r,l,rfl,s,t,H,i⟩;go_wp2_with fail;refine(done_any C x r l w2 w.heap.size (s.o.base b.o.size)).mono ?_;rw[t.o];rintro e w3 ⟨D,y,u,j,rfl,z,B,E⟩;go_wp2;refine bodyPost_ret (v:= .tuple #[.l D y y,.i j]) (by simp[results,Tryz.results185,go_sem]) rfl ?_;exact⟨D,y,u,j,rfl,z,B,hI ((b.o.trans (i.o.mono b.o.size)).trans (E.o.mono (Nat.le_trans b.o.size i.o.size)))⟩
theorem nShr_ok(A:Option Addr)(n c:Nat)(k:Int)(a:List Nat)(w:World)(ha:Sl w A n c a)(hn:n≤256)(hk:0≤k)(hk1:k≤65536):
 Calls Tryz.prog 147 #[.l A n c,.i k] w (Res w.heap.size (val a/2^k.toNat) w):=by
 have m:=hI ha;have o:=ha.max;have g:decide (256<n)=false:=(by simp;omega);clear ha
 go_in
 go_wp2_with fail;refine(longFn_natural.one A n c _ o).mono ?_;rintro e w1 ⟨rfl,d⟩;rw[g];clear g;have p:=hI (show Sl w1 A n c a by rw[d];exact m.o.alloc _);have b:=hI (show Below w.heap.size w w1 by rw[d];exact(Below.refl _ _).alloc (Nat.le_refl _) _);clear d;have F:decide (k<0)=false:=(by simp;omega);have G:decide (65536<k)=false:=(by simp;omega)
 obtain⟨q,rfl⟩:∃q:Nat,k=q:=⟨k.toNat,by omega⟩
 rw[Int.toNat_natCast];clear hk;go_wp2_with fail;refine(shr_any A n c q a w1 p.o (by omega) (by omega)).mono ?_;rintro e w2 ⟨C,x,r,l,rfl,s,t,H,i⟩;go_wp2_with fail;refine(done_any C x r l w2 w.heap.size (s.o.base b.o.size)).mono ?_;rw[t.o];rintro e w3 ⟨D,y,u,j,rfl,z,B,E⟩;go_wp2;refine bodyPost_ret (v:= .tuple #[.l D y y,.i j]) (by simp[results,Tryz.results147,go_sem]) rfl ?_;exact⟨D,y,u,j,rfl,z,B,hI ((b.o.trans (i.o.mono b.o.size)).trans (E.o.mono (Nat.le_trans b.o.size i.o.size)))⟩
def DivRes(q r:Nat)(w:World)(e:Ending)(w':World):Prop:=
  ∃(A B:Option Addr) (n m:Nat),e= .returned (.tuple #[.l A n n,.l B m m,.i 0])∧Hid (Nw w' tU w.heap.size A n n (limbs q))∧Hid (Nw w' tU w.heap.size B m m (limbs r))∧Hid (Below w.heap.size w w')
theorem nDivMod_ok(A B:Option Addr)(n c m d:Nat)(a b:List Nat)(w:World)(ha:Sl w A n c a)(hb:Sl w B m d b)(hn:n≤256)(hm:m≤256)(h0:0<val b):
 Calls Tryz.prog 141 #[.l A n c,.l B m d] w (DivRes (val a/val b) (val a%val b) w):=by
 have E:=hI ha;have F:=ha.max;have G:=hI hb;have H:=hb.max;have o:decide (256<n∨256<m)=false:=(by simp;omega);clear ha hb
 go_in
 go_wp2_with fail;refine(longFn_natural.two A B n c m d _ F H).mono ?_;rintro e w1 ⟨rfl,j⟩;rw[o];clear o;have I:=hI (show Sl w1 A n c a by rw[j];exact E.o.alloc _);have k:=hI (show Sl w1 B m d b by rw[j];exact G.o.alloc _);have l:=hI (show Below w.heap.size w w1 by rw[j];exact(Below.refl _ _).alloc (Nat.le_refl _) _);clear j
 have J:tl b≠0:=fun e=>by have:=val_zero_iff.2 e;omega
 have V:=(trim_sl k.o).1
 generalize hkb:tl b=kb at *
 have L:=hI hkb;have W:((kb:Int)==0)=false:=(by rw[beq_eq_false_iff_ne];omega);clear hkb J;go_wp2_with fail;refine(trim_any B m d b w1 k.o).mono ?_;rintro e w1' ⟨rfl,rfl⟩;rw[L.o];go_wp2_with fail;refine(divide_any A B n c m d a b w1 I.o k.o (by omega) h0).mono ?_;rintro e w2 ⟨C,x,p,q,D,y,r,s,rfl,g,i,M,N,X,Y,O⟩;have P:=g.o.sl.capMax;have Z:=g.o.sl.cap;have Q:=i.o.sl.capMax;have aa:=i.o.sl.cap;have R:=(trim_sl g.o.sl).1;have S:=(trim_sl i.o.sl).1;have u:=hI (trim_limbs g.o.sl.ok);have z:=hI (trim_limbs i.o.sl.ok);rw[M.o]at u;rw[N.o]at z
 generalize hkq:tl q=kq at *
 generalize hkr:tl s=kr at *
 have T:=hI hkq;have U:=hI hkr;clear hkq hkr;go_wp2_with fail;refine(trim_any C x p q w2 g.o.sl).mono ?_;rintro e w2' ⟨rfl,rfl⟩;rw[T.o];go_wp2_with fail;refine(clip_any C kq p w2 (by omega) P g.o.sl.nil).mono ?_;rintro e w2' ⟨rfl,rfl⟩;go_wp2_with fail;refine(trim_any D y r s w2 i.o.sl).mono ?_;rintro e w2' ⟨rfl,rfl⟩;rw[U.o];go_wp2_with fail;refine(clip_any D kr r w2 (by omega) Q i.o.sl.nil).mono ?_;rintro e w2' ⟨rfl,rfl⟩;go_wp2;refine bodyPost_ret (v:= .tuple #[.l C kq kq,.l D kr kr,.i 0]) (by simp[results,Tryz.results141,go_sem]) rfl ?_;refine⟨C,D,kq,kr,rfl,hI ?_,hI ?_,l.o.t O⟩
 ·
  rw[←u.o];exact(g.o.base l.o.size).cut R (Nat.le_refl _) (by omega) (fun h=>by have:=g.o.sl.nil h;omega)
 rw[←z.o];exact(i.o.base l.o.size).cut S (Nat.le_refl _) (by omega) (fun h=>by have:=i.o.sl.nil h;omega)
end Go.Proofs.YtgcjmhjjpbcfmaaGreatDoor
namespace Go.Fl.Nm
end Go.Fl.Nm
namespace Go.Proofs.YtgcjmhjjpbcfmaaGreatDoor
open Go.RowKit Go.Fl Go.Fl.Nm
