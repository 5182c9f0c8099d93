import Derived.Test.YtgcjmhjjpbcfmaaGreatDoorQF
import Derived.Shelf.Strings.SlTrimAscii
import Derived.Shelf.Small.Utf8
import Derived.Shelf.Small.Wraps
import Derived.Shelf.Strconv.Itoa3
import Derived.Shelf.Strconv.ErrVarParseInt
import Derived.Shelf.Strings.Shaped
set_option linter.unusedVariables false
set_option maxHeartbeats 2000000
namespace Go.Fl
open Go.RowKit
theorem store2_put{w:World}{g:Nat}{t:TypeId}{x y:Value}(hB:Blk w g t #[x,y])(a b:Value):(w.setCell ⟨g,0,none⟩ a).setCell ⟨g,1,none⟩ b=putB w g t #[a,b]:=by
 rw[hB.setCell_eq 0 a];have h1:=hB.put ((#[x,y]:Array Value).setIfInBounds 0 a);rw[h1.setCell_eq 1 b,putB_putB]
 rfl
theorem store2_below{B:Nat}{w0 w:World}{g:Nat}{t:TypeId}{x y:Value}(h:Below B w0 w)(hB:Blk w g t #[x,y])(a b:Value)(hg:B≤g):Below B w0 ((w.setCell ⟨g,0,none⟩ a).setCell ⟨g,1,none⟩ b):=by
 rw[store2_put hB];exact h.trans (putB_below w g t _ hg)
end Go.Fl
namespace Go.Fl.Rt
def vB(n d:Int):Bool:=decide (valid n d)
theorem vB_iff{n d:Int}:vB n d=true↔valid n d:=by simp[vB]
theorem gcd_step(x y:Nat):Nat.gcd x y=Nat.gcd y (x%y):=by rw[Nat.gcd_comm x y,Nat.gcd_rec,Nat.gcd_comm]
end Go.Fl.Rt
namespace Go.Proofs.YtgcjmhjjpbcfmaaGreatDoor
open Go.RowKit Go.Fl Go.Fl.Nm Go.Fl.Dy Go.Fl.Rt
def GcdPost(g:Nat)(w:World)(e:Ending)(w':World):Prop:=e= .returned (.int .u64 (g:Nat))∧∃q,w'=w.drewN q
def RtE(r:Int×Int×Int)(w:World)(e:Ending)(w':World):Prop:=e= .returned (.tuple #[.agg #[.i r.1,.i r.2.1],.i r.2.2])∧Hid (Below w.heap.size w w')
theorem size_q(n:Int)(w:World)(h1: -9223372036854775808≤n)(h2:n≤9223372036854775807):
 Calls Tryz.prog 64 #[.i n] w fun e w'=>e= .returned (.int .u64 (n.natAbs:Nat))∧w=w':=by
 by_cases hn:n<0
 ·
  have dn:decide (n<0)=true:=decide_eq_true hn;have e1:IntKind.u64.wrap (-n)= -n:=(by rw[IntKind.wrap_u64];omega);have e2:(n.natAbs:Int)= -n:=(by omega)
  by_cases hm:n= -9223372036854775808
  ·
   subst hm
   go_in
   go_wp2
   go_ret;exact⟨ret_int (by kernel_rfl),rfl⟩
  have h3: -n≤9223372036854775807:=(by omega);have HE:=hI e2;clear e2 hm
  go_in
  go_wp2
  go_ret;exact⟨ret_int (by rw[HE.o]),rfl⟩
 have dn:decide (n<0)=false:=decide_eq_false hn;have e1:IntKind.u64.wrap n=n:=(by rw[IntKind.wrap_u64];omega);have HE:=hI (show(n.natAbs:Int)=n by omega)
 go_in
 go_wp2
 go_ret;exact⟨ret_int (by rw[HE.o]),rfl⟩
theorem size_r(n:Int)(w:World)(h1: -9223372036854775808≤n)(h2:n≤9223372036854775807):
 Calls Tryz.prog 48 #[.i n] w fun e w'=>e= .returned (.int .u64 (n.natAbs:Nat))∧w=w':=by
 by_cases hn:n<0
 ·
  have dn:decide (n<0)=true:=decide_eq_true hn;have e1:IntKind.u64.wrap (-(n+1))= -(n+1):=(by rw[IntKind.wrap_u64];omega);have e3:IntKind.u64.wrap (-(n+1)+1)= -n:=(by rw[IntKind.wrap_u64];omega);have HE:=hI (show(n.natAbs:Int)= -n by omega)
  go_in
  go_wp2
  go_ret;exact⟨ret_int (by rw[HE.o];try omega),rfl⟩
 have dn:decide (n<0)=false:=decide_eq_false hn;have e1:IntKind.u64.wrap n=n:=(by rw[IntKind.wrap_u64];omega);have HE:=hI (show(n.natAbs:Int)=n by omega)
 go_in
 go_wp2
 go_ret;exact⟨ret_int (by rw[HE.o]),rfl⟩
theorem gcd_q(a b:Nat)(w:World)(ha:a<18446744073709551616)(hb:b<18446744073709551616):
 Calls Tryz.prog 63 #[.int .u64 a,.int .u64 b] w (GcdPost (Nat.gcd a b) w):=by
 go_in
 go_wp2
 go_loopg [0,1] b (fun k x y wr=>∃(d X Y:Nat),wr=w.drewN d∧x= .int .u64 X∧y= .int .u64 Y∧X<18446744073709551616∧Y<18446744073709551616∧Y=k∧Hid (Nat.gcd X Y=Nat.gcd a b))
 case atStart=>exact⟨0,a,b,rfl,rfl,rfl,ha,hb,rfl,hI rfl⟩
 obtain⟨d,X,Y,rfl,rfl,rfl,hX,hY,rfl,HG⟩:=hrel
 by_cases h0:Y=0
 ·
  subst h0;go_wp2;go_ret;exact⟨ret_int (by rw[←HG.o,Nat.gcd_zero_right]),d,rfl⟩
 have d0:((Y:Int)!=0)=true:=(by simp;exact h0);have d1:((Y:Int)==0)=false:=(by rw[beq_eq_false_iff_ne];omega);have hlt:=Nat.mod_lt X (by omega:0<Y);have HG2:=hI (show Nat.gcd Y (X%Y)=Nat.gcd a b by rw[←gcd_step,HG.o]);go_wp2
 go_quiet (fail)
 go_wp2
 go_roundg (X%Y)
 case measure=>exact hlt
 case rel=>exact⟨_,Y,X%Y,drewN_drewN w d _,rfl,by first | rfl | go_num,hY,by omega,rfl,HG2⟩
theorem gcd_r(a b:Nat)(w:World)(ha:a<18446744073709551616)(hb:b<18446744073709551616):
 Calls Tryz.prog 81 #[.int .u64 a,.int .u64 b] w (GcdPost (Nat.gcd a b) w):=by
 go_in
 go_wp2
 go_loopg [0,1] b (fun k x y wr=>∃(d X Y:Nat),wr=w.drewN d∧x= .int .u64 X∧y= .int .u64 Y∧X<18446744073709551616∧Y<18446744073709551616∧Y=k∧Hid (Nat.gcd X Y=Nat.gcd a b))
 case atStart=>exact⟨0,a,b,rfl,rfl,rfl,ha,hb,rfl,hI rfl⟩
 obtain⟨d,X,Y,rfl,rfl,rfl,hX,hY,rfl,HG⟩:=hrel
 by_cases h0:Y=0
 ·
  subst h0;go_wp2;go_ret;exact⟨ret_int (by rw[←HG.o,Nat.gcd_zero_right]),d,rfl⟩
 have d0:((Y:Int)!=0)=true:=(by simp;exact h0);have d1:((Y:Int)==0)=false:=(by rw[beq_eq_false_iff_ne];omega);have hlt:=Nat.mod_lt X (by omega:0<Y);have HG2:=hI (show Nat.gcd Y (X%Y)=Nat.gcd a b by rw[←gcd_step,HG.o]);go_wp2
 go_quiet (fail)
 go_wp2
 go_roundg (X%Y)
 case measure=>exact hlt
 case rel=>exact⟨_,Y,X%Y,drewN_drewN w d _,rfl,by first | rfl | go_num,hY,by omega,rfl,HG2⟩
theorem valid_q(n d:Int)(w:World)(h1: -9223372036854775808≤n)(h2:n≤9223372036854775807)(h3: -9223372036854775808≤d)(h4:d≤9223372036854775807):
 Calls Tryz.prog 38 #[.agg #[.i n,.i d]] w (Ret (.b (vB n d)) w):=by
 by_cases t1:1≤d
 case neg=>
  have k:decide (1≤d)=false:=decide_eq_false t1;have b:=hI (show vB n d=false by rw[vB,decide_eq_false_iff_not];rintro⟨l,m,o,p,_⟩;unfold MX at *;omega);clear t1
  go_in
  go_wp2_with fail;obtain⟨c,a,g,i⟩:=aX w 42 #[.i n,.i d];rw[←a];clear a;have j:=i.o.cell
  go_quiet (fail)
  go_wp2;go_ret;exact⟨ret_bool (by rw[b.o]),hI (below_drewN g.o _)⟩
 have x:decide (1≤d)=true:=decide_eq_true t1
 by_cases t2:d≤1073741824
 case neg=>
  have k:decide (d≤1073741824)=false:=decide_eq_false t2;have b:=hI (show vB n d=false by rw[vB,decide_eq_false_iff_not];rintro⟨l,m,o,p,_⟩;unfold MX at *;omega);clear t2
  go_in
  go_wp2_with fail;obtain⟨c,a,g,i⟩:=aX w 42 #[.i n,.i d];rw[←a];clear a;have j:=i.o.cell
  go_quiet (fail)
  go_wp2;go_ret;exact⟨ret_bool (by rw[b.o]),hI (below_drewN g.o _)⟩
 have y:decide (d≤1073741824)=true:=decide_eq_true t2
 by_cases t3: -1073741824≤n
 case neg=>
  have k:decide (-1073741824≤n)=false:=decide_eq_false t3;have b:=hI (show vB n d=false by rw[vB,decide_eq_false_iff_not];rintro⟨l,m,o,p,_⟩;unfold MX at *;omega);clear t3
  go_in
  go_wp2_with fail;obtain⟨c,a,g,i⟩:=aX w 42 #[.i n,.i d];rw[←a];clear a;have j:=i.o.cell
  go_quiet (fail)
  go_wp2;go_ret;exact⟨ret_bool (by rw[b.o]),hI (below_drewN g.o _)⟩
 have z:decide (-1073741824≤n)=true:=decide_eq_true t3
 by_cases t4:n≤1073741824
 case neg=>
  have k:decide (n≤1073741824)=false:=decide_eq_false t4;have b:=hI (show vB n d=false by rw[vB,decide_eq_false_iff_not];rintro⟨l,m,o,p,_⟩;unfold MX at *;omega);clear t4
  go_in
  go_wp2_with fail;obtain⟨c,a,g,i⟩:=aX w 42 #[.i n,.i d];rw[←a];clear a;have j:=i.o.cell
  go_quiet (fail)
  go_wp2;go_ret;exact⟨ret_bool (by rw[b.o]),hI (below_drewN g.o _)⟩
 have B:decide (n≤1073741824)=true:=decide_eq_true t4
 by_cases t5:Nat.gcd n.natAbs d.natAbs=1
 ·
  have u:(((Nat.gcd n.natAbs d.natAbs:Nat):Int)==1)=true:=(by simp;omega);have b:=hI (show vB n d=true by rw[vB];rw[decide_eq_true_iff];exact⟨t1,by unfold MX;omega,by unfold MX;omega,by unfold MX;omega,t5⟩);clear t5
  go_in
  go_wp2_with fail;obtain⟨c,a,g,i⟩:=aX w 42 #[.i n,.i d];rw[←a];clear a;have j:=i.o.cell;have r:=hI (fun q=>gcd_q n.natAbs d.natAbs (c.drewN q) (by omega) (by omega));have s:=hI (fun q=>size_q d (c.drewN q) h3 h4)
  go_quiet ((first | (go_at_call_of 64 (Value.int .i64 n);exact quiet_left ((fun q=>size_q n (c.drewN q) h1 h2) _)) | (go_at_call_of 64 (Value.int .i64 d);exact quiet_left (s.o _)) | (go_at_call 63;exact quiet_left2 (r.o _))))
  go_wp2;go_ret;exact⟨ret_bool (by rw[b.o]),hI (below_drewN g.o _)⟩
 have u:(((Nat.gcd n.natAbs d.natAbs:Nat):Int)==1)=false:=(by simp;omega);have b:=hI (show vB n d=false by rw[vB];rw[decide_eq_false_iff_not];rintro⟨_,_,_,_,v⟩;exact t5 v);clear t5
 go_in
 go_wp2_with fail;obtain⟨c,a,g,i⟩:=aX w 42 #[.i n,.i d];rw[←a];clear a;have j:=i.o.cell;have r:=hI (fun q=>gcd_q n.natAbs d.natAbs (c.drewN q) (by omega) (by omega));have s:=hI (fun q=>size_q d (c.drewN q) h3 h4)
 go_quiet ((first | (go_at_call_of 64 (Value.int .i64 n);exact quiet_left ((fun q=>size_q n (c.drewN q) h1 h2) _)) | (go_at_call_of 64 (Value.int .i64 d);exact quiet_left (s.o _)) | (go_at_call 63;exact quiet_left2 (r.o _))))
 go_wp2;go_ret;exact⟨ret_bool (by rw[b.o]),hI (below_drewN g.o _)⟩
theorem valid_r(n d:Int)(w:World)(h1: -9223372036854775808≤n)(h2:n≤9223372036854775807)(h3: -9223372036854775808≤d)(h4:d≤9223372036854775807):
 Calls Tryz.prog 46 #[.agg #[.i n,.i d]] w (Ret (.b (vB n d)) w):=by
 by_cases t1:1≤d
 case neg=>
  have k:decide (1≤d)=false:=decide_eq_false t1;have b:=hI (show vB n d=false by rw[vB,decide_eq_false_iff_not];rintro⟨l,m,o,p,_⟩;unfold MX at *;omega);clear t1
  go_in
  go_wp2_with fail;obtain⟨i,a,c,g⟩:=aX w 42 #[.i n,.i d];rw[←a];clear a;have j:=g.o.cell
  go_quiet (fail)
  go_wp2;go_ret;exact⟨ret_bool (by rw[b.o]),hI (below_drewN c.o _)⟩
 have y:decide (1≤d)=true:=decide_eq_true t1
 by_cases t2:d≤1073741824
 case neg=>
  have k:decide (d≤1073741824)=false:=decide_eq_false t2;have b:=hI (show vB n d=false by rw[vB,decide_eq_false_iff_not];rintro⟨l,m,o,p,_⟩;unfold MX at *;omega);clear t2
  go_in
  go_wp2_with fail;obtain⟨i,a,c,g⟩:=aX w 42 #[.i n,.i d];rw[←a];clear a;have j:=g.o.cell
  go_quiet (fail)
  go_wp2;go_ret;exact⟨ret_bool (by rw[b.o]),hI (below_drewN c.o _)⟩
 have z:decide (d≤1073741824)=true:=decide_eq_true t2
 by_cases t3: -1073741824≤n
 case neg=>
  have k:decide (-1073741824≤n)=false:=decide_eq_false t3;have b:=hI (show vB n d=false by rw[vB,decide_eq_false_iff_not];rintro⟨l,m,o,p,_⟩;unfold MX at *;omega);clear t3
  go_in
  go_wp2_with fail;obtain⟨i,a,c,g⟩:=aX w 42 #[.i n,.i d];rw[←a];clear a;have j:=g.o.cell
  go_quiet (fail)
  go_wp2;go_ret;exact⟨ret_bool (by rw[b.o]),hI (below_drewN c.o _)⟩
 have B:decide (-1073741824≤n)=true:=decide_eq_true t3
 by_cases t4:n≤1073741824
 case neg=>
  have k:decide (n≤1073741824)=false:=decide_eq_false t4;have b:=hI (show vB n d=false by rw[vB,decide_eq_false_iff_not];rintro⟨l,m,o,p,_⟩;unfold MX at *;omega);clear t4
  go_in
  go_wp2_with fail;obtain⟨i,a,c,g⟩:=aX w 42 #[.i n,.i d];rw[←a];clear a;have j:=g.o.cell
  go_quiet (fail)
  go_wp2;go_ret;exact⟨ret_bool (by rw[b.o]),hI (below_drewN c.o _)⟩
 have C:decide (n≤1073741824)=true:=decide_eq_true t4
 by_cases t5:Nat.gcd n.natAbs d.natAbs=1
 ·
  have u:(((Nat.gcd n.natAbs d.natAbs:Nat):Int)==1)=true:=(by simp;omega);have b:=hI (show vB n d=true by rw[vB];rw[decide_eq_true_iff];exact⟨t1,by unfold MX;omega,by unfold MX;omega,by unfold MX;omega,t5⟩);clear t5
  go_in
  go_wp2_with fail;obtain⟨i,a,c,g⟩:=aX w 42 #[.i n,.i d];rw[←a];clear a;have j:=g.o.cell;have r:=hI (fun q=>gcd_r n.natAbs d.natAbs (i.drewN q) (by omega) (by omega));have s:=hI (show(d.natAbs:Int)=d by omega);have v:IntKind.u64.wrap d=(d.natAbs:Int):=(by rw[s.o,IntKind.wrap_u64];omega)
  go_quiet ((first | (go_at_call_of 48 (Value.int .i64 n);exact quiet_left ((fun q=>size_r n (i.drewN q) h1 h2) _)) | (go_at_call 81;exact quiet_left2 (r.o _))))
  go_wp2;go_ret;exact⟨ret_bool (by rw[b.o]),hI (below_drewN c.o _)⟩
 have u:(((Nat.gcd n.natAbs d.natAbs:Nat):Int)==1)=false:=(by simp;omega);have b:=hI (show vB n d=false by rw[vB];rw[decide_eq_false_iff_not];rintro⟨_,_,_,_,x⟩;exact t5 x);clear t5
 go_in
 go_wp2_with fail;obtain⟨i,a,c,g⟩:=aX w 42 #[.i n,.i d];rw[←a];clear a;have j:=g.o.cell;have r:=hI (fun q=>gcd_r n.natAbs d.natAbs (i.drewN q) (by omega) (by omega));have s:=hI (show(d.natAbs:Int)=d by omega);have v:IntKind.u64.wrap d=(d.natAbs:Int):=(by rw[s.o,IntKind.wrap_u64];omega)
 go_quiet ((first | (go_at_call_of 48 (Value.int .i64 n);exact quiet_left ((fun q=>size_r n (i.drewN q) h1 h2) _)) | (go_at_call 81;exact quiet_left2 (r.o _))))
 go_wp2;go_ret;exact⟨ret_bool (by rw[b.o]),hI (below_drewN c.o _)⟩
theorem make_q(n d:Int)(w:World)(h1: -9223372036854775808≤n)(h2:n≤9223372036854775807)(h3: -9223372036854775808≤d)(h4:d≤9223372036854775807):
 Calls Tryz.prog 130 #[.i n,.i d] w (RtE (make n d) w):=by
 by_cases hd:d=0
 ·
  have q:=hI (show make n d=(0,0,10)by unfold make;rw[if_pos hd]);subst hd
  go_in
  go_wp2;refine bodyPost_ret (v:= .tuple #[.agg #[.i 0,.i 0],.i 10]) (by simp[results,Tryz.results130,go_sem]) rfl ?_;rw[q.o];exact⟨rfl,hI (below_a1 _ _)⟩
 have V:(d==0)=false:=(by rw[beq_eq_false_iff_ne];exact hd);obtain⟨g,L⟩:=eX (Nat.gcd n.natAbs d.natAbs);have W:0<g:=(by rw[L];exact gcd_pos_of hd);obtain⟨X,M⟩:=eX (n.natAbs/g);obtain⟨Y,N⟩:=eX (d.natAbs/g);have H:=hI L.symm
 have P:=hI (show make n d=if MX<X∨MX<Y then(0,0,9)else(if decide (n<0)!=decide (d<0)then -(X:Int)else(X:Int),(Y:Int),0)by
  unfold make;rw[if_neg hd,M,N,L])
 have Z:X≤n.natAbs:=(by rw[M];exact Nat.div_le_self _ _);have aa:Y≤d.natAbs:=(by rw[N];exact Nat.div_le_self _ _);have dg:((g:Int)==0)=false:=(by rw[beq_eq_false_iff_ne];omega);have ex:(n.natAbs:Int)/(g:Int)=(X:Int):=(by rw[M];rfl);have ey:(d.natAbs:Int)/(g:Int)=(Y:Int):=(by rw[N];rfl);clear L M N hd
 by_cases c1:1073741824<X
 ·
  have S:decide ((1073741824:Int)<X)=true:=dT;have q:=hI (show make n d=(0,0,9)by rw[P.o,if_pos (.inl (by unfold MX;exact c1))]);clear c1
  go_in
  go_wp2_with fail;obtain⟨b,a,m,x⟩:=aX w 42 #[.i 0,.i 0];rw[←a];clear a;refine(size_q n b h1 h2).mono ?_;rintro e w' ⟨rfl,rfl⟩;go_wp2_with fail;refine(size_q d b h3 h4).mono ?_;rintro e w' ⟨rfl,rfl⟩;go_wp2_with fail;refine(gcd_q n.natAbs d.natAbs b (by omega) (by omega)).mono ?_;rw[H.o];rintro e w2 ⟨rfl,y,i⟩;have j:=hI (show Below b.heap.size b w2 by rw[i];exact below_drewN (Below.refl _ _) y);clear i;have r:=m.o.t j;go_wp2
  go_quiet (fail)
  rename_i nq
  obtain⟨c,a⟩:=eX (w2.drewN nq);have k:=hI (show Below w2.heap.size w2 c by rw[a];exact below_drewN (Below.refl _ _) _);rw[←a];clear a;have s:=hI ((x.o.belowW j.o).belowW k.o);have o:=s.o.cell;have B:=s.o.frozen;go_wp2;refine bodyPost_ret (v:= .tuple #[.agg #[.i 0,.i 0],.i 9]) (by simp[results,Tryz.results130,go_sem,o]) rfl ?_;rw[q.o];exact⟨rfl,hI (store2_below (r.o.trans (k.o.mono r.o.size)) s.o _ _ (Nat.le_refl _))⟩
 have S:decide ((1073741824:Int)<X)=false:=dF
 by_cases c2:1073741824<Y
 ·
  have T:decide ((1073741824:Int)<Y)=true:=dT;have q:=hI (show make n d=(0,0,9)by rw[P.o,if_pos (.inr (by unfold MX;exact c2))]);clear c2
  go_in
  go_wp2_with fail;obtain⟨b,a,m,x⟩:=aX w 42 #[.i 0,.i 0];rw[←a];clear a;refine(size_q n b h1 h2).mono ?_;rintro e w' ⟨rfl,rfl⟩;go_wp2_with fail;refine(size_q d b h3 h4).mono ?_;rintro e w' ⟨rfl,rfl⟩;go_wp2_with fail;refine(gcd_q n.natAbs d.natAbs b (by omega) (by omega)).mono ?_;rw[H.o];rintro e w2 ⟨rfl,y,i⟩;have j:=hI (show Below b.heap.size b w2 by rw[i];exact below_drewN (Below.refl _ _) y);clear i;have r:=m.o.t j;go_wp2
  go_quiet (fail)
  rename_i nq
  obtain⟨c,a⟩:=eX (w2.drewN nq);have k:=hI (show Below w2.heap.size w2 c by rw[a];exact below_drewN (Below.refl _ _) _);rw[←a];clear a;have s:=hI ((x.o.belowW j.o).belowW k.o);have o:=s.o.cell;have B:=s.o.frozen;go_wp2;refine bodyPost_ret (v:= .tuple #[.agg #[.i 0,.i 0],.i 9]) (by simp[results,Tryz.results130,go_sem,o]) rfl ?_;rw[q.o];exact⟨rfl,hI (store2_below (r.o.trans (k.o.mono r.o.size)) s.o _ _ (Nat.le_refl _))⟩
 have T:decide ((1073741824:Int)<Y)=false:=dF;have O:=hI (show make n d=(if decide (n<0)!=decide (d<0)then -(X:Int)else(X:Int),(Y:Int),0)by rw[P.o,if_neg (by unfold MX;omega)])
 by_cases n0:n<0
 case pos=>
  by_cases d0:d<0
  ·
   have C:decide (n<0)=true:=decide_eq_true n0;have D:decide (d<0)=true:=decide_eq_true d0;have q:=hI (show make n d=((X:Int),(Y:Int),0)by rw[O.o,C,D];rfl);clear n0 d0
   go_in
   go_wp2_with fail;obtain⟨b,a,m,x⟩:=aX w 42 #[.i 0,.i 0];rw[←a];clear a;refine(size_q n b h1 h2).mono ?_;rintro e w' ⟨rfl,rfl⟩;go_wp2_with fail;refine(size_q d b h3 h4).mono ?_;rintro e w' ⟨rfl,rfl⟩;go_wp2_with fail;refine(gcd_q n.natAbs d.natAbs b (by omega) (by omega)).mono ?_;rw[H.o];rintro e w2 ⟨rfl,y,i⟩;have j:=hI (show Below b.heap.size b w2 by rw[i];exact below_drewN (Below.refl _ _) y);clear i;have r:=m.o.t j;go_wp2
   go_quiet (fail)
   rename_i nq
   obtain⟨c,a⟩:=eX (w2.drewN nq);have k:=hI (show Below w2.heap.size w2 c by rw[a];exact below_drewN (Below.refl _ _) _);rw[←a];clear a;have u:=r.o.t k;go_upto_region 9 with(fail);obtain⟨I,a,z,p⟩:=aX c 42 #[.i (X:Int),.i (Y:Int)];rw[←a];clear a;have l:=hI (((x.o.belowW j.o).belowW k.o).belowW z.o);have E:=p.o.cell;have F:=p.o.frozen;have o:=l.o.cell;have B:=l.o.frozen;go_wp2;refine bodyPost_ret (v:= .tuple #[.agg #[.i (X:Int),.i (Y:Int)],.i 0]) (by simp[results,Tryz.results130,go_sem,o]) rfl ?_;rw[q.o];exact⟨rfl,hI (store2_below (u.o.trans (z.o.mono u.o.size)) l.o _ _ (Nat.le_refl _))⟩
  have C:decide (n<0)=true:=decide_eq_true n0;have D:decide (d<0)=false:=decide_eq_false d0;have q:=hI (show make n d=((-(X:Int)),(Y:Int),0)by rw[O.o,C,D];rfl);clear n0 d0
  go_in
  go_wp2_with fail;obtain⟨b,a,m,x⟩:=aX w 42 #[.i 0,.i 0];rw[←a];clear a;refine(size_q n b h1 h2).mono ?_;rintro e w' ⟨rfl,rfl⟩;go_wp2_with fail;refine(size_q d b h3 h4).mono ?_;rintro e w' ⟨rfl,rfl⟩;go_wp2_with fail;refine(gcd_q n.natAbs d.natAbs b (by omega) (by omega)).mono ?_;rw[H.o];rintro e w2 ⟨rfl,y,i⟩;have j:=hI (show Below b.heap.size b w2 by rw[i];exact below_drewN (Below.refl _ _) y);clear i;have r:=m.o.t j;go_wp2
  go_quiet (fail)
  rename_i nq
  obtain⟨c,a⟩:=eX (w2.drewN nq);have k:=hI (show Below w2.heap.size w2 c by rw[a];exact below_drewN (Below.refl _ _) _);rw[←a];clear a;have s:=hI ((x.o.belowW j.o).belowW k.o);have u:=r.o.t k;go_upto_region 9 with(fail);obtain⟨I,a,z,p⟩:=aX c 42 #[.i (X:Int),.i (Y:Int)];rw[←a];clear a;have l:=s.o.b9 z;have E:=p.o.cell;have F:=p.o.frozen;have o:=l.o.cell;have B:=l.o.frozen
  have Q:c.heap.size≠w.heap.size:=fun e=>by have:=l.o.lt;have U:=m.o.size;have:=s.o.lt;omega
  go_upto_region 11 with(fail);rw[p.o.setCell_eq 0];obtain⟨w9,a⟩:=eX (putB I c.heap.size 42 ((#[.i (X:Int),.i (Y:Int)]:Array Value).setIfInBounds 0 (Value.int .i64 (-(X:Int)))));have J:=hI (show Blk w9 c.heap.size 42 #[.i (-(X:Int)),.i (Y:Int)]by rw[a];exact p.o.put _);have G:=hI (show Blk w9 w.heap.size 42 #[.i 0,.i 0]by rw[a];exact l.o.far (Ne.symm Q) _);have R:=hI (show Below w.heap.size w w9 by rw[a];exact(u.o.trans (z.o.mono u.o.size)).trans (putB_below _ _ _ _ (by have:=u.o.size;have:=m.o.size;omega)));rw[←a];clear a E F o B;have E:=J.o.cell;have F:=J.o.frozen;have o:=G.o.cell;have B:=G.o.frozen;go_wp2;refine bodyPost_ret (v:= .tuple #[.agg #[.i (-(X:Int)),.i (Y:Int)],.i 0]) (by simp[results,Tryz.results130,go_sem,o]) rfl ?_;rw[q.o];exact⟨rfl,hI (store2_below R.o G.o _ _ (Nat.le_refl _))⟩
 by_cases d0:d<0
 ·
  have C:decide (n<0)=false:=decide_eq_false n0;have D:decide (d<0)=true:=decide_eq_true d0;have q:=hI (show make n d=((-(X:Int)),(Y:Int),0)by rw[O.o,C,D];rfl);clear n0 d0
  go_in
  go_wp2_with fail;obtain⟨b,a,m,x⟩:=aX w 42 #[.i 0,.i 0];rw[←a];clear a;refine(size_q n b h1 h2).mono ?_;rintro e w' ⟨rfl,rfl⟩;go_wp2_with fail;refine(size_q d b h3 h4).mono ?_;rintro e w' ⟨rfl,rfl⟩;go_wp2_with fail;refine(gcd_q n.natAbs d.natAbs b (by omega) (by omega)).mono ?_;rw[H.o];rintro e w2 ⟨rfl,y,i⟩;have j:=hI (show Below b.heap.size b w2 by rw[i];exact below_drewN (Below.refl _ _) y);clear i;have r:=m.o.t j;go_wp2
  go_quiet (fail)
  rename_i nq
  obtain⟨c,a⟩:=eX (w2.drewN nq);have k:=hI (show Below w2.heap.size w2 c by rw[a];exact below_drewN (Below.refl _ _) _);rw[←a];clear a;have s:=hI ((x.o.belowW j.o).belowW k.o);have u:=r.o.t k;go_upto_region 9 with(fail);obtain⟨I,a,z,p⟩:=aX c 42 #[.i (X:Int),.i (Y:Int)];rw[←a];clear a;have l:=s.o.b9 z;have E:=p.o.cell;have F:=p.o.frozen;have o:=l.o.cell;have B:=l.o.frozen
  have Q:c.heap.size≠w.heap.size:=fun e=>by have:=l.o.lt;have U:=m.o.size;have:=s.o.lt;omega
  go_upto_region 11 with(fail);rw[p.o.setCell_eq 0];obtain⟨w9,a⟩:=eX (putB I c.heap.size 42 ((#[.i (X:Int),.i (Y:Int)]:Array Value).setIfInBounds 0 (Value.int .i64 (-(X:Int)))));have J:=hI (show Blk w9 c.heap.size 42 #[.i (-(X:Int)),.i (Y:Int)]by rw[a];exact p.o.put _);have G:=hI (show Blk w9 w.heap.size 42 #[.i 0,.i 0]by rw[a];exact l.o.far (Ne.symm Q) _);have R:=hI (show Below w.heap.size w w9 by rw[a];exact(u.o.trans (z.o.mono u.o.size)).trans (putB_below _ _ _ _ (by have:=u.o.size;have:=m.o.size;omega)));rw[←a];clear a E F o B;have E:=J.o.cell;have F:=J.o.frozen;have o:=G.o.cell;have B:=G.o.frozen;go_wp2;refine bodyPost_ret (v:= .tuple #[.agg #[.i (-(X:Int)),.i (Y:Int)],.i 0]) (by simp[results,Tryz.results130,go_sem,o]) rfl ?_;rw[q.o];exact⟨rfl,hI (store2_below R.o G.o _ _ (Nat.le_refl _))⟩
 have C:decide (n<0)=false:=decide_eq_false n0;have D:decide (d<0)=false:=decide_eq_false d0;have q:=hI (show make n d=((X:Int),(Y:Int),0)by rw[O.o,C,D];rfl);clear n0 d0
 go_in
 go_wp2_with fail;obtain⟨b,a,m,x⟩:=aX w 42 #[.i 0,.i 0];rw[←a];clear a;refine(size_q n b h1 h2).mono ?_;rintro e w' ⟨rfl,rfl⟩;go_wp2_with fail;refine(size_q d b h3 h4).mono ?_;rintro e w' ⟨rfl,rfl⟩;go_wp2_with fail;refine(gcd_q n.natAbs d.natAbs b (by omega) (by omega)).mono ?_;rw[H.o];rintro e w2 ⟨rfl,y,i⟩;have j:=hI (show Below b.heap.size b w2 by rw[i];exact below_drewN (Below.refl _ _) y);clear i;have r:=m.o.t j;go_wp2
 go_quiet (fail)
 rename_i nq
 obtain⟨c,a⟩:=eX (w2.drewN nq);have k:=hI (show Below w2.heap.size w2 c by rw[a];exact below_drewN (Below.refl _ _) _);rw[←a];clear a;have u:=r.o.t k;go_upto_region 9 with(fail);obtain⟨I,a,z,p⟩:=aX c 42 #[.i (X:Int),.i (Y:Int)];rw[←a];clear a;have l:=hI (((x.o.belowW j.o).belowW k.o).belowW z.o);have E:=p.o.cell;have F:=p.o.frozen;have o:=l.o.cell;have B:=l.o.frozen;go_wp2;refine bodyPost_ret (v:= .tuple #[.agg #[.i (X:Int),.i (Y:Int)],.i 0]) (by simp[results,Tryz.results130,go_sem,o]) rfl ?_;rw[q.o];exact⟨rfl,hI (store2_below (u.o.trans (z.o.mono u.o.size)) l.o _ _ (Nat.le_refl _))⟩
end Go.Proofs.YtgcjmhjjpbcfmaaGreatDoor
namespace Go.Fl
open Go.RowKit
theorem store7_put{w:World}{g:Nat}{t:TypeId}{a b c d e f h:Value}(hB:Blk w g t #[a,b,c,d,e,f,h])(a' b' c' d' e' f' h':Value):
 ((((((w.setCell ⟨g,0,none⟩ a').setCell ⟨g,1,none⟩ b').setCell ⟨g,2,none⟩ c').setCell ⟨g,3,none⟩ d').setCell ⟨g,4,none⟩ e').setCell ⟨g,5,none⟩ f').setCell ⟨g,6,none⟩ h'=putB w g t #[a',b',c',d',e',f',h']:=by
 rw[hB.setCell_eq 0 a',(hB.put _).setCell_eq 1 b',putB_putB,(hB.put _).setCell_eq 2 c',putB_putB,(hB.put _).setCell_eq 3 d',putB_putB,(hB.put _).setCell_eq 4 e',putB_putB,(hB.put _).setCell_eq 5 f',putB_putB,(hB.put _).setCell_eq 6 h',putB_putB]
 rfl
theorem noU7{a b s:Bool}{A B:Option Addr}{n c m d:Nat}{e f:Int}:NoU #[.b a,.l A n c,.i e,.b b,.l B m d,.i f,.b s]:=by
 intro i x h
 match i with
 | 0=>simp at h
 | 1=>simp at h
 | 2=>simp at h
 | 3=>simp at h
 | 4=>simp at h
 | 5=>simp at h
 | 6=>simp at h
 | i+7=>simp at h
end Go.Fl
namespace Go.Fl.Dy
def encR(n d p:Int):D×D×Bool:=
  if Rt.vB n d=true∧(divE (canon (decide (n<0)) n.natAbs 0) (canon false d.natAbs 0) p false).2=0∧(divE (canon (decide (n<0)) n.natAbs 0) (canon false d.natAbs 0) p true).2=0 then
    ((divE (canon (decide (n<0)) n.natAbs 0) (canon false d.natAbs 0) p false).1,(divE (canon (decide (n<0)) n.natAbs 0) (canon false d.natAbs 0) p true).1,false)
  else(⟨false,0,0⟩,⟨false,0,0⟩,true)
theorem canon_small{neg:Bool}{k:Nat}(h:k≤1073741824):vld (canon neg k 0):=by
 refine canon_vld ?_
 by_cases h0:k=0
 ·
  subst h0;rfl
 rw[canon_pos h0];have:=blen_od h0;have:Nm.blen k≤31:=Nm.blen_le (by omega);exact inR_of (k:=od k) (e:=0+v2 k) (by omega) (by omega) (by omega) (by omega)
end Go.Fl.Dy
namespace Go.Proofs.YtgcjmhjjpbcfmaaGreatDoor
open Go.RowKit Go.Fl Go.Fl.Nm Go.Fl.Dy Go.Fl.Rt
def IvR(r:D×D×Bool)(w:World)(e:Ending)(w':World):Prop:=
  ∃(A B:Option Addr) (n c m d:Nat),e= .returned (.agg #[.b r.1.neg,.l A n c,.i r.1.e,.b r.2.1.neg,.l B m d,.i r.2.1.e,.b r.2.2])∧Hid (Sl w' A n c (limbs r.1.k))∧Hid (Sl w' B m d (limbs r.2.1.k))∧Hid (Below w.heap.size w w')
end Go.Proofs.YtgcjmhjjpbcfmaaGreatDoor
namespace Go.Proofs
open Go.Shelf
def Tryz.lays160_ren:Go.Shelf.Ren:=⟨fun | 160=>220 | 232=>263 | 231=>262 | 227=>264 | 234=>266 | 233=>265 | 236=>268 | 235=>267 | 228=>303 | 271=>306 | 151=>305 | 197=>304 | 120=>320 | 152=>319 | 260=>318 | 137=>90 | 119=>328 | 224=>301 | 225=>300 | 217=>122 | 266=>170 | n=>n,fun | 9=>9 | 4=>4 | 3=>3 | 5=>5 | 117=>283 | 116=>282 | 0=>0 | 124=>286 | 21=>21 | 105=>307 | 46=>182 | 119=>327 | 139=>330 | 138=>329 | n=>n,fun | 3=>6 | 4=>7 | n=>n⟩
theorem Tryz.lays160:Go.Proofs.Lays.n160 Tryz.prog Tryz.lays160_ren:={
 mixed:=by kernel_rfl
 f119:=Tryz.func328.trans (congrArg some (by kernel_rfl))
 f120:=Tryz.func320.trans (congrArg some (by kernel_rfl))
 f137:=Tryz.func90.trans (congrArg some (by kernel_rfl))
 f151:=Tryz.func305.trans (congrArg some (by kernel_rfl))
 f152:=Tryz.func319.trans (congrArg some (by kernel_rfl))
 f160:=Tryz.func220.trans (congrArg some (by kernel_rfl))
 f197:=Tryz.func304.trans (congrArg some (by kernel_rfl))
 f217:=Tryz.func122.trans (congrArg some (by kernel_rfl))
 f224:=Tryz.func301.trans (congrArg some (by kernel_rfl))
 f225:=Tryz.func300.trans (congrArg some (by kernel_rfl))
 f227:=Tryz.func264.trans (congrArg some (by kernel_rfl))
 f228:=Tryz.func303.trans (congrArg some (by kernel_rfl))
 f231:=Tryz.func262.trans (congrArg some (by kernel_rfl))
 f232:=Tryz.func263.trans (congrArg some (by kernel_rfl))
 f233:=Tryz.func265.trans (congrArg some (by kernel_rfl))
 f234:=Tryz.func266.trans (congrArg some (by kernel_rfl))
 f235:=Tryz.func267.trans (congrArg some (by kernel_rfl))
 f236:=Tryz.func268.trans (congrArg some (by kernel_rfl))
 f260:=Tryz.func318.trans (congrArg some (by kernel_rfl))
 f266:=Tryz.func170.trans (congrArg some (by kernel_rfl))
 f271:=Tryz.func306.trans (congrArg some (by kernel_rfl))
 t0:=Tryz.underlying0
 a0:=Tryz.isAgg0
 z0:=Tryz.sizeOf0
 v0:=Tryz.zeroValue0
 t3:=Tryz.underlying3
 a3:=Tryz.isAgg3
 z3:=Tryz.sizeOf3
 v3:=Tryz.zeroValue3
 t4:=Tryz.underlying4
 a4:=Tryz.isAgg4
 z4:=Tryz.sizeOf4
 v4:=Tryz.zeroValue4
 t5:=Tryz.underlying5
 a5:=Tryz.isAgg5
 z5:=Tryz.sizeOf5
 v5:=Tryz.zeroValue5
 t9:=Tryz.underlying9
 a9:=Tryz.isAgg9
 z9:=Tryz.sizeOf9
 v9:=Tryz.zeroValue9
 t21:=Tryz.underlying21
 a21:=Tryz.isAgg21
 z21:=Tryz.sizeOf21
 v21:=Tryz.zeroValue21
 t46:=Tryz.underlying182
 a46:=Tryz.isAgg182
 z46:=Tryz.sizeOf182
 v46:=Tryz.zeroValue182
 t105:=Tryz.underlying307
 a105:=Tryz.isAgg307
 z105:=Tryz.sizeOf307
 v105:=Tryz.zeroValue307
 t116:=Tryz.underlying282
 a116:=Tryz.isAgg282
 z116:=Tryz.sizeOf282
 t117:=Tryz.underlying283
 a117:=Tryz.isAgg283
 z117:=Tryz.sizeOf283
 v117:=Tryz.zeroValue283
 t119:=Tryz.underlying327
 a119:=Tryz.isAgg327
 z119:=Tryz.sizeOf327
 t124:=Tryz.underlying286
 a124:=Tryz.isAgg286
 z124:=Tryz.sizeOf286
 v124:=Tryz.zeroValue286
 t138:=Tryz.underlying329
 a138:=Tryz.isAgg329
 z138:=Tryz.sizeOf329
 v138:=Tryz.zeroValue329
 t139:=Tryz.underlying330
 a139:=Tryz.isAgg330
 z139:=Tryz.sizeOf330
 v139:=Tryz.zeroValue330
 g3:=by kernel_rfl
 g4:=by kernel_rfl}
open Go.RowKit in
theorem Tryz.strings_Trim_digits(s:ByteArray)(w:World)(hs:s.size≤9223372036854775807):
 Calls Tryz.prog 220 #[.string s,.string ⟨#[48,49,50,51,52,53,54,55,56,57]⟩] w fun e w'=>e= .returned (.string ⟨(Lib.trimS s.data.toList [48,49,50,51,52,53,54,55,56,57]).toArray⟩)∧Below w.heap.size w w':=
 Any.strings_Trim_laid Tryz.lays160 (by kernel_rfl) s ⟨#[48,49,50,51,52,53,54,55,56,57]⟩ w hs (by decide) (ascii_of_all (by decide))
def Tryz.lays103_ren:Go.Shelf.Ren:=⟨fun | 103=>174 | 210=>219 | 206=>261 | n=>n,fun | 9=>9 | 4=>4 | 24=>219 | 3=>3 | n=>n,fun | n=>n⟩
theorem Tryz.lays103:Go.Proofs.Lays.n103 Tryz.prog Tryz.lays103_ren:={
 mixed:=by kernel_rfl
 f103:=Tryz.func174.trans (congrArg some (by kernel_rfl))
 f206:=Tryz.func261.trans (congrArg some (by kernel_rfl))
 f210:=Tryz.func219.trans (congrArg some (by kernel_rfl))
 t3:=Tryz.underlying3
 a3:=Tryz.isAgg3
 z3:=Tryz.sizeOf3
 v3:=Tryz.zeroValue3
 t4:=Tryz.underlying4
 a4:=Tryz.isAgg4
 z4:=Tryz.sizeOf4
 v4:=Tryz.zeroValue4
 t9:=Tryz.underlying9
 a9:=Tryz.isAgg9
 z9:=Tryz.sizeOf9
 v9:=Tryz.zeroValue9
 t24:=Tryz.underlying219
 a24:=Tryz.isAgg219
 z24:=Tryz.sizeOf219
 v24:=Tryz.zeroValue219}
open Go.RowKit in
theorem Tryz.strings_CutPrefix(s p:ByteArray)(w:World):
 Calls Tryz.prog 174 #[.string s,.string p] w fun e w'=>e= .returned (.tuple #[.string ⟨(Lib.trimPrefix s.data.toList p.data.toList).toArray⟩,.b (Lib.hasPrefix s.data.toList p.data.toList)])∧w'=w:=Any.strings_CutPrefix Tryz.lays103 s p w
def Tryz.laysC174_ren:Go.Shelf.Ren:=⟨fun | 174=>221 | 247=>269 | 245=>270 | 287=>307 | 279=>308 | 280=>309 | 281=>310 | 282=>311 | 321=>321 | 322=>322 | 316=>323 | 171=>325 | 205=>324 | 243=>329 | 246=>330 | 283=>331 | 284=>332 | 285=>333 | 286=>334 | 129=>336 | 317=>335 | 318=>337 | 319=>338 | 320=>339 | 337=>189 | 338=>340 | n=>n,fun | 9=>9 | 3=>3 | 2=>2 | 75=>249 | 85=>250 | 4=>4 | 167=>310 | 5=>5 | 53=>114 | 175=>311 | 46=>182 | 168=>313 | 37=>321 | 0=>0 | 210=>324 | 21=>21 | 127=>332 | 145=>335 | 143=>333 | 171=>337 | 173=>340 | 212=>343 | 51=>157 | 20=>20 | 213=>344 | 232=>265 | 233=>346 | 80=>172 | n=>n,fun | 15=>4 | 16=>5 | 17=>8 | 18=>1 | 19=>9 | n=>n⟩
theorem Tryz.laysC174:Go.Proofs.LaysC.n174 Tryz.prog Tryz.laysC174_ren:={
 mixed:=by kernel_rfl
 f129:=Tryz.func336.trans (congrArg some (by kernel_rfl))
 f171:=Tryz.func325.trans (congrArg some (by kernel_rfl))
 f174:=Tryz.func221.trans (congrArg some (by kernel_rfl))
 f205:=Tryz.func324.trans (congrArg some (by kernel_rfl))
 f243:=Tryz.func329.trans (congrArg some (by kernel_rfl))
 f245:=Tryz.func270.trans (congrArg some (by kernel_rfl))
 f246:=Tryz.func330.trans (congrArg some (by kernel_rfl))
 f247:=Tryz.func269.trans (congrArg some (by kernel_rfl))
 f279:=Tryz.func308.trans (congrArg some (by kernel_rfl))
 f280:=Tryz.func309.trans (congrArg some (by kernel_rfl))
 f281:=Tryz.func310.trans (congrArg some (by kernel_rfl))
 f282:=Tryz.func311.trans (congrArg some (by kernel_rfl))
 f283:=Tryz.func331.trans (congrArg some (by kernel_rfl))
 f284:=Tryz.func332.trans (congrArg some (by kernel_rfl))
 f285:=Tryz.func333.trans (congrArg some (by kernel_rfl))
 f286:=Tryz.func334.trans (congrArg some (by kernel_rfl))
 f287:=Tryz.func307.trans (congrArg some (by kernel_rfl))
 f316:=Tryz.func323.trans (congrArg some (by kernel_rfl))
 f317:=Tryz.func335.trans (congrArg some (by kernel_rfl))
 f318:=Tryz.func337.trans (congrArg some (by kernel_rfl))
 f319:=Tryz.func338.trans (congrArg some (by kernel_rfl))
 f320:=Tryz.func339.trans (congrArg some (by kernel_rfl))
 f321:=Tryz.func321.trans (congrArg some (by kernel_rfl))
 f322:=Tryz.func322.trans (congrArg some (by kernel_rfl))
 f337:=Tryz.func189.trans (congrArg some (by kernel_rfl))
 f338:=Tryz.func340.trans (congrArg some (by kernel_rfl))
 t0:=Tryz.underlying0
 a0:=Tryz.isAgg0
 z0:=Tryz.sizeOf0
 v0:=Tryz.zeroValue0
 t2:=Tryz.underlying2
 a2:=Tryz.isAgg2
 z2:=Tryz.sizeOf2
 v2:=Tryz.zeroValue2
 t3:=Tryz.underlying3
 a3:=Tryz.isAgg3
 z3:=Tryz.sizeOf3
 v3:=Tryz.zeroValue3
 t4:=Tryz.underlying4
 a4:=Tryz.isAgg4
 z4:=Tryz.sizeOf4
 v4:=Tryz.zeroValue4
 t5:=Tryz.underlying5
 a5:=Tryz.isAgg5
 z5:=Tryz.sizeOf5
 v5:=Tryz.zeroValue5
 t9:=Tryz.underlying9
 a9:=Tryz.isAgg9
 z9:=Tryz.sizeOf9
 v9:=Tryz.zeroValue9
 t20:=Tryz.underlying20
 a20:=Tryz.isAgg20
 z20:=Tryz.sizeOf20
 v20:=Tryz.zeroValue20
 t21:=Tryz.underlying21
 a21:=Tryz.isAgg21
 z21:=Tryz.sizeOf21
 v21:=Tryz.zeroValue21
 t37:=Tryz.underlying321
 a37:=Tryz.isAgg321
 z37:=Tryz.sizeOf321
 v37:=Tryz.zeroValue321
 t46:=Tryz.underlying182
 a46:=Tryz.isAgg182
 z46:=Tryz.sizeOf182
 v46:=Tryz.zeroValue182
 t51:=Tryz.underlying157
 a51:=Tryz.isAgg157
 z51:=Tryz.sizeOf157
 v51:=Tryz.zeroValue157
 t53:=Tryz.underlying114
 a53:=Tryz.isAgg114
 z53:=Tryz.sizeOf114
 v53:=Tryz.zeroValue114
 t75:=Tryz.underlying249
 a75:=Tryz.isAgg249
 z75:=Tryz.sizeOf249
 v75:=Tryz.zeroValue249
 t85:=Tryz.underlying250
 a85:=Tryz.isAgg250
 z85:=Tryz.sizeOf250
 v85:=Tryz.zeroValue250
 t127:=Tryz.underlying332
 a127:=Tryz.isAgg332
 z127:=Tryz.sizeOf332
 v127:=Tryz.zeroValue332
 t143:=Tryz.underlying333
 a143:=Tryz.isAgg333
 z143:=Tryz.sizeOf333
 v143:=Tryz.zeroValue333
 t145:=Tryz.underlying335
 a145:=Tryz.isAgg335
 z145:=Tryz.sizeOf335
 v145:=Tryz.zeroValue335
 t167:=Tryz.underlying310
 a167:=Tryz.isAgg310
 z167:=Tryz.sizeOf310
 v167:=Tryz.zeroValue310
 t168:=Tryz.underlying313
 a168:=Tryz.isAgg313
 z168:=Tryz.sizeOf313
 v168:=Tryz.zeroValue313
 t171:=Tryz.underlying337
 a171:=Tryz.isAgg337
 z171:=Tryz.sizeOf337
 v171:=Tryz.zeroValue337
 t173:=Tryz.underlying340
 a173:=Tryz.isAgg340
 z173:=Tryz.sizeOf340
 v173:=Tryz.zeroValue340
 t175:=Tryz.underlying311
 a175:=Tryz.isAgg311
 z175:=Tryz.sizeOf311
 v175:=Tryz.zeroValue311
 t210:=Tryz.underlying324
 a210:=Tryz.isAgg324
 z210:=Tryz.sizeOf324
 v210:=Tryz.zeroValue324
 t212:=Tryz.underlying343
 a212:=Tryz.isAgg343
 z212:=Tryz.sizeOf343
 v212:=Tryz.zeroValue343
 t213:=Tryz.underlying344
 a213:=Tryz.isAgg344
 z213:=Tryz.sizeOf344
 t232:=Tryz.underlying265
 a232:=Tryz.isAgg265
 z232:=Tryz.sizeOf265
 v232:=Tryz.zeroValue265
 t233:=Tryz.underlying346
 a233:=Tryz.isAgg346
 z233:=Tryz.sizeOf346
 v233:=Tryz.zeroValue346
 g15:=by kernel_rfl
 g16:=by kernel_rfl
 g17:=by kernel_rfl
 g18:=by kernel_rfl
 g19:=by kernel_rfl
 t80:=Tryz.underlying172
 a80:=Tryz.isAgg172
 z80:=Tryz.sizeOf172
 v80:=Tryz.zeroValue172
 i0:=by kernel_rfl
 i2:=by kernel_rfl
 i3:=by kernel_rfl
 i4:=by kernel_rfl
 i5:=by kernel_rfl
 i9:=by kernel_rfl
 i20:=by kernel_rfl
 i21:=by kernel_rfl
 i37:=by kernel_rfl
 i46:=by kernel_rfl
 i51:=by kernel_rfl
 i53:=by kernel_rfl
 i75:=by kernel_rfl
 i80:=by kernel_rfl
 i85:=by kernel_rfl
 i127:=by kernel_rfl
 i143:=by kernel_rfl
 i145:=by kernel_rfl
 i167:=by kernel_rfl
 i168:=by kernel_rfl
 i171:=by kernel_rfl
 i173:=by kernel_rfl
 i175:=by kernel_rfl
 i210:=by kernel_rfl
 i212:=by kernel_rfl
 i232:=by kernel_rfl
 i233:=by kernel_rfl
 m15:=by kernel_rfl
 m16:=by kernel_rfl
 m17:=by kernel_rfl
 m18:=by kernel_rfl
 m19:=by kernel_rfl
 c0:=by kernel_rfl
 c2:=by kernel_rfl
 c3:=by kernel_rfl
 c4:=by kernel_rfl
 c5:=by kernel_rfl
 c9:=by kernel_rfl
 c20:=by kernel_rfl
 c21:=by kernel_rfl
 c37:=by kernel_rfl
 c46:=by kernel_rfl
 c51:=by kernel_rfl
 c53:=by kernel_rfl
 c75:=by kernel_rfl
 c80:=by kernel_rfl
 c85:=by kernel_rfl
 c127:=by kernel_rfl
 c143:=by kernel_rfl
 c145:=by kernel_rfl
 c167:=by kernel_rfl
 c168:=by kernel_rfl
 c171:=by kernel_rfl
 c173:=by kernel_rfl
 c175:=by kernel_rfl
 c210:=by kernel_rfl
 c212:=by kernel_rfl
 c213:=by kernel_rfl
 c232:=by kernel_rfl
 c233:=by kernel_rfl}
open Go.RowKit in
theorem Tryz.strconv_ParseInt_10_at64_ok(s:ByteArray)(hmax:s.size≤9223372036854775806)(v:Int)(h:Lib.parseIntB 64 s.data.toList= .ok v)(w:World):
 Calls Tryz.prog 221 #[.string s,.i 10,.i 64] w fun e w'=>e= .returned (.tuple #[.i v,.nilIface])∧(w'=w∨∃t,w'=Lib.bytesWorld w 5 t):=Any.strconv_ParseInt_10_at64_ok Tryz.laysC174 s hmax v h w
open Go.RowKit in
theorem Tryz.strconv_ParseInt_10_at64_range_var(s:ByteArray)(hlim:s.size≤281474976710656)(h:Lib.parseIntB 64 s.data.toList= .range)(tp:TypeId)(p:Value)(w:World)(hvar:w.var? Tryz.prog "strconv.ErrRange" =some #[.iface tp p]):
 Calls Tryz.prog 221 #[.string s,.i 10,.i 64] w fun e w'=>∃N,e= .returned (.tuple #[.i (Lib.intSat 64 s.data.toList),.iface 313 (.p N)])∧w.heap.size≤N∧w'.heap[N]? =some (.cells #[.string ⟨#[80,97,114,115,101,73,110,116]⟩,.string s,.iface tp p] 324 (0,0))∧Below w.heap.size w w':=Any.strconv_ParseInt_10_at64_range_var Tryz.laysC174 s hlim h tp p w hvar
def Tryz.lays219_ren:Go.Shelf.Ren:=⟨fun | 219=>260 | 217=>122 | 225=>300 | 224=>301 | 267=>302 | 266=>170 | 314=>317 | n=>n,fun | 9=>9 | 3=>3 | 4=>4 | 5=>5 | 46=>182 | 146=>259 | 51=>157 | n=>n,fun | 1=>0 | n=>n⟩
theorem Tryz.lays219:Go.Proofs.Lays.n219 Tryz.prog Tryz.lays219_ren:={
 mixed:=by kernel_rfl
 f217:=Tryz.func122.trans (congrArg some (by kernel_rfl))
 f219:=Tryz.func260.trans (congrArg some (by kernel_rfl))
 f224:=Tryz.func301.trans (congrArg some (by kernel_rfl))
 f225:=Tryz.func300.trans (congrArg some (by kernel_rfl))
 f266:=Tryz.func170.trans (congrArg some (by kernel_rfl))
 f267:=Tryz.func302.trans (congrArg some (by kernel_rfl))
 f314:=Tryz.func317.trans (congrArg some (by kernel_rfl))
 t3:=Tryz.underlying3
 a3:=Tryz.isAgg3
 z3:=Tryz.sizeOf3
 v3:=Tryz.zeroValue3
 t4:=Tryz.underlying4
 a4:=Tryz.isAgg4
 z4:=Tryz.sizeOf4
 v4:=Tryz.zeroValue4
 t5:=Tryz.underlying5
 a5:=Tryz.isAgg5
 z5:=Tryz.sizeOf5
 v5:=Tryz.zeroValue5
 t9:=Tryz.underlying9
 a9:=Tryz.isAgg9
 z9:=Tryz.sizeOf9
 v9:=Tryz.zeroValue9
 t46:=Tryz.underlying182
 a46:=Tryz.isAgg182
 z46:=Tryz.sizeOf182
 v46:=Tryz.zeroValue182
 t51:=Tryz.underlying157
 a51:=Tryz.isAgg157
 z51:=Tryz.sizeOf157
 v51:=Tryz.zeroValue157
 t146:=Tryz.underlying259
 a146:=Tryz.isAgg259
 z146:=Tryz.sizeOf259
 v146:=Tryz.zeroValue259
 g1:=by kernel_rfl}
open Go.RowKit Go.Lib in
theorem Tryz.stringslite_Index_one(s:ByteArray)(c:UInt8)(w:World):
 Calls Tryz.prog 260 #[.string s,.string ⟨#[c]⟩] w fun e w'=>e= .returned (.i (Lib.indexByte s.data.toList c))∧w'=w:=Any.stringslite_Index_one Tryz.lays219 s c w
end Go.Proofs
namespace Go.Fl.Rt
open Go.Lib Go.RowKit Go.Fl
theorem digits_contains(b:UInt8):([48,49,50,51,52,53,54,55,56,57]:List UInt8).contains b=isDig b:=by
 have h:∀k:Fin 256,([48,49,50,51,52,53,54,55,56,57]:List UInt8).contains (UInt8.ofNat k.val)=isDig (UInt8.ofNat k.val):=(by decide+kernel);have:=h ⟨b.toNat,b.toNat_lt⟩
 simpa using this
theorem dw_nil(p:UInt8→Bool)(l:List UInt8):l.dropWhile p=[]↔∀x∈l,p x=true:=by
 induction l with
 | nil=>simp
 | cons x l ih=>
  by_cases h:p x=true
  ·
   rw[List.dropWhile_cons_of_pos h,ih];simp[h]
  rw[List.dropWhile_cons_of_neg h]
  constructor
  ·
   intro e;cases e
  intro e;exact absurd (e x (by simp)) h
theorem dw_head{p:UInt8→Bool}{l:List UInt8}{y:UInt8}{r:List UInt8}(h:l.dropWhile p=y::r):p y=false:=by
 induction l with
 | nil=>cases h
 | cons x l ih=>
  by_cases hx:p x=true
  ·
   rw[List.dropWhile_cons_of_pos hx]at h;exact ih h
  rw[List.dropWhile_cons_of_neg hx]at h;injection h with h1 h2;rw[←h1];simpa using hx
theorem trim_digits(l:List UInt8):(trimS l [48,49,50,51,52,53,54,55,56,57]=[])↔l.all isDig=true:=by
 have e:(fun b=>([48,49,50,51,52,53,54,55,56,57]:List UInt8).contains b)=isDig:=funext digits_contains;unfold trimS trimLeftS trimRightS;rw[e,dw_nil]
 constructor
 ·
  intro h;rw[List.all_eq_true];intro x hx
  cases hh:l.reverse.dropWhile isDig with
  | nil=>exact(dw_nil _ _).1 hh x (by simpa using hx)
  | cons y r=>
   have h1:=dw_head hh;have h2:=h y (by rw[hh];simp);rw[h1]at h2
   cases h2
 intro h x hx;rw[List.all_eq_true]at h;rw[(dw_nil isDig l.reverse).2 (fun y hy=>h y (by simpa using hy))]at hx
 simp at hx
theorem fold_ge:∀(l:List UInt8) (v:Nat),v≤l.foldl (fun v b=>10*v+(b.toNat-48)) v:=by
 intro l
 induction l with
 | nil=>intro v;exact Nat.le_refl _
 | cons c l ih=>
  intro v;have:=ih (10*v+(c.toNat-48))
  show v≤l.foldl _ (10*v+(c.toNat-48))
  omega
theorem fold_lt:∀(l:List UInt8) (v:Nat),l.all isDig=true→l.foldl (fun v b=>10*v+(b.toNat-48)) v<(v+1)*10^l.length:=by
 intro l
 induction l with
 | nil=>intro v _;simp
 | cons c l ih=>
  intro v h;simp only[List.all_cons,Bool.and_eq_true]at h;have hc:=h.1;unfold isDig at hc
  simp at hc
  have:=ih (10*v+(c.toNat-48)) h.2;refine Nat.lt_of_lt_of_le this ?_;rw[List.length_cons,Nat.pow_succ,Nat.mul_comm (10^l.length) 10,←Nat.mul_assoc];exact Nat.mul_le_mul_right _ (by omega)
theorem dval_lt(l:List UInt8)(h:l.all isDig=true):dval l<10^l.length:=by have:=fold_lt l 0 h;simpa [dval]using this
theorem pm_ok{M:Nat}(hM:M≤18446744073709551615):∀(l:List UInt8) (acc:Nat),l.all isDig=true→l.foldl (fun v b=>10*v+(b.toNat-48)) acc≤M→parseUintM M acc l= .ok (l.foldl (fun v b=>10*v+(b.toNat-48)) acc):=by
 intro l
 induction l with
 | nil=>intro acc _ _;rfl
 | cons c l ih=>
  intro acc h hm;simp only[List.all_cons,Bool.and_eq_true]at h;have hc:=h.1;unfold isDig at hc
  simp at hc
  simp only[List.foldl_cons]at hm ⊢;have hg:=fold_ge l (10*acc+(c.toNat-48));unfold parseUintM;rw[if_pos hc,if_neg (by omega),if_neg (by omega),Nat.mul_comm acc 10];exact ih _ h.2 hm
theorem pm_digits{M:Nat}:∀(l:List UInt8) (acc:Nat),l.all isDig=true→parseUintM M acc l= .range∨∃u,parseUintM M acc l= .ok u:=by
 intro l
 induction l with
 | nil=>intro acc _;exact .inr ⟨acc,rfl⟩
 | cons c l ih=>
  intro acc h;simp only[List.all_cons,Bool.and_eq_true]at h;have hc:=h.1;unfold isDig at hc
  simp at hc
  unfold parseUintM;rw[if_pos hc]
  split
  ·
   exact .inl rfl
  split
  ·
   exact .inl rfl
  exact ih _ h.2
theorem digs_cons{l:List UInt8}(h:digs l=true):∃c r,l=c::r∧c.toNat≠43∧c.toNat≠45∧l.all isDig=true:=by
 unfold digs at h;simp only[Bool.and_eq_true,decide_eq_true_eq]at h;obtain⟨h1,h2⟩:=h
 cases l with
 | nil=>exact absurd rfl h1
 | cons c r=>
  have hc:=h2;simp only[List.all_cons,Bool.and_eq_true]at hc;have:=hc.1;unfold isDig at this
  simp at this
  exact⟨c,r,rfl,by omega,by omega,h2⟩
theorem parse_ok{l:List UInt8}(h:digs l=true)(hl:l.length≤18):parseIntB 64 l= .ok (dval l:Int):=by
 obtain⟨c,r,rfl,h1,h2,h3⟩:=digs_cons h;have hv:=dval_lt _ h3;have hp:10^(c::r).length≤10^18:=Nat.pow_le_pow_right (by omega) hl;have e18:(10:Nat)^18=1000000000000000000:=(by decide);rw[e18]at hp;rw[parseIntB_plain 64 c r h1 h2];unfold parseUintB;rw[if_neg (by simp)];have e64:(2:Nat)^64-1=18446744073709551615:=(by decide);rw[e64,pm_ok (Nat.le_refl _) (c::r) 0 h3 (by show dval (c::r)≤_;omega)]
 show signlessC _ (.ok (dval (c::r)))=_
 have e63:(2:Nat)^(64-1)=9223372036854775808:=(by decide);rw[e63];unfold signlessC;simp only;rw[if_neg (by omega)]
theorem parse_any{l:List UInt8}(h:digs l=true):parseIntB 64 l= .range∨∃v:Int,parseIntB 64 l= .ok v:=by
 obtain⟨c,r,rfl,h1,h2,h3⟩:=digs_cons h;rw[parseIntB_plain 64 c r h1 h2];unfold parseUintB;rw[if_neg (by simp)]
 rcases pm_digits (M:=2^64-1) (c::r) 0 h3 with e | ⟨u,e⟩
 ·
  rw[e];exact .inl rfl
 rw[e];unfold signlessC;simp only
 split
 ·
  exact .inl rfl
 exact .inr ⟨_,rfl⟩
theorem digs_append{a b:List UInt8}(ha:digs a=true)(hb:b.all isDig=true):digs (a++b)=true:=by
 unfold digs at ha ⊢
 simp only[Bool.and_eq_true,decide_eq_true_eq,List.all_append]at ha ⊢;exact⟨by simp[ha.1],ha.2,hb⟩
theorem digs_all{a:List UInt8}(ha:digs a=true):a.all isDig=true:=by
 unfold digs at ha;simp only[Bool.and_eq_true]at ha;exact ha.2
theorem bl_data(s:ByteArray):s.toList=s.data.toList:=ByteArray.toList_eq s
theorem read1_point{l rest a b:List UInt8}{ng:Bool}(hn:(l.head? ==some 45)=ng)(hr:(if ng then l.tail else l)=rest)(hab:rest=a++46::b)(h46:(46:UInt8)∉a):
 read1 l=if !digs a|| !digs b then(0,0,3)else if 18<a.length+b.length then(0,0,5)else make (if ng then -(dval (a++b):Int)else(dval (a++b):Int)) ((10^b.length:Nat):Int):=by
 unfold read1;simp only[hn,hr,hab,cut_some h46]
 simp
theorem read1_slash{l rest a b:List UInt8}{ng:Bool}(hn:(l.head? ==some 45)=ng)(hr:(if ng then l.tail else l)=rest)(h46:(46:UInt8)∉rest)(hab:rest=a++47::b)(h47:(47:UInt8)∉a):
 read1 l=if !digs a|| !digs b then(0,0,3)else if 18<max a.length b.length then(0,0,5)else make (if ng then -(dval a:Int)else(dval a:Int)) (dval b:Int):=by
 unfold read1;simp only[hn,hr,cut_none h46];rw[hab]
 simp[cut_some h47]
theorem read1_none{l rest:List UInt8}{ng:Bool}(hn:(l.head? ==some 45)=ng)(hr:(if ng then l.tail else l)=rest)(h46:(46:UInt8)∉rest)(h47:(47:UInt8)∉rest):
 read1 l=if !digs rest then(0,0,3)else if 18<rest.length then(0,0,5)else make (if ng then -(dval rest:Int)else(dval rest:Int)) 1:=by
 unfold read1;simp only[hn,hr,cut_none h46,cut_none h47]
 simp
theorem prefix_head(l:List UInt8):Lib.hasPrefix l [45]=(l.head? ==some 45)∧Lib.trimPrefix l [45]=if(l.head? ==some 45)then l.tail else l:=by
 unfold Lib.trimPrefix Lib.hasPrefix
 cases l with
 | nil=>simp
 | cons c r=>
  by_cases h:c=45
  ·
   subst h;simp
  have h2:(45==c)=false:=by rw[beq_eq_false_iff_ne];exact fun e=>h e.symm
  have h3:(c==45)=false:=by rw[beq_eq_false_iff_ne];exact h
  simp[List.isPrefixOf,h2,h3]
end Go.Fl.Rt
namespace Go.Proofs.YtgcjmhjjpbcfmaaGreatDoor
open Go.RowKit Go.Fl Go.Fl.Nm Go.Fl.Dy Go.Fl.Rt
structure RX (w:World):Prop extends RB w where
  er:∃tp p,w.var? Tryz.prog "strconv.ErrRange" =some #[.iface tp p]
theorem gER:Tryz.prog.globalNamed "strconv.ErrRange" =some 5:=by kernel_rfl
theorem RX.below{w w':World}(h:RX w)(hb:Below w.heap.size w w'):RX w':=by
 refine⟨h.toRB.below hb,?_⟩;obtain⟨tp,p,hv⟩:=h.er;refine⟨tp,p,?_⟩
 unfold World.var? at hv ⊢
 rw[gER]at hv ⊢;simp only[Option.bind_some]at hv ⊢
 have hlt:5<w.heap.size:=by
  rcases Nat.lt_or_ge 5 w.heap.size with h' | h'
  ·
   exact h'
  rw[Array.getElem?_eq_none h']at hv;cases hv
 rw[hb.block _ hlt];exact hv
theorem RX.belowW{w w':World}(h:RX w)(hb:Below w.heap.size w w'):RX w':=h.below hb
theorem RX.b9{w w':World}(h:RX w)(hb:Go.RowKit.Hid (Go.RowKit.Below w.heap.size w w')):Go.RowKit.Hid (RX w'):=hI (RX.belowW h hb.o)
theorem RX.alloc{w:World}(h:RX w)(o:Obj):RX (w.alloc o):=h.below (below_a1 _ _)
theorem RX.drewN{w:World}(h:RX w)(n:Nat):RX (w.drewN n):=h.below (below_drewN (Below.refl _ _) n)
def CutP(a b:List UInt8)(w:World)(e:Ending)(w':World):Prop:=
  ∃A B:ByteArray,e= .returned (.tuple #[.string A,.string B,.b true])∧Hid (A.data.toList=a)∧Hid (B.data.toList=b)∧Hid (Below w.heap.size w w')
theorem take_pre(a b:List UInt8)(c:UInt8)(k:Nat)(h:a.length=k):(a++c::b).take k=a∧(a++c::b).drop (k+1)=b:=by
 subst h
 constructor
 ·
  simp
 rw[List.drop_append]
 simp
theorem cutl_yes(s:ByteArray)(c:UInt8)(a b:List UInt8)(w:World)(hs:s.size≤100000)(h:s.data.toList=a++c::b)(hc:c∉a):
 Calls Tryz.prog 217 #[.string s,.string ⟨#[c]⟩] w (CutP a b w):=by
 have m:s.size=a.length+1+b.length:=by rw[←length_data,h];simp;omega
 rcases indexByte_spec s.data.toList c with⟨h1,h2⟩ | ⟨h1,i,h2,h3,h4,h5,h6⟩
 ·
  exact absurd (by rw[h];simp) h1
 have d:=tw_stop (p:=(· !=c)) (a:=a) (b:=b) (c:=c) (fun x hx=>by simp;exact fun e=>hc (e▸hx)) (by simp);rw[h]at h3 h4;rw[d.1]at h4
 have g:a.length=i:=by
  have:=congrArg List.length h4;rw[List.length_take]at this
  omega
 obtain⟨j,k⟩:=take_pre a b c i g;have n:=hI (show(s.extract 0 i).data.toList=a by rw[Lib.extract_data,h];simpa using j);have o:=hI (show(s.extract (i+1) s.size).data.toList=b by rw[Lib.extract_to_end,h];exact k);have l:=hI (Tryz.stringslite_Index_one s c w);rw[h2]at l;have r:i+1≤s.size:=(by omega);have t:i≤s.size:=(by omega);have u:IntKind.i64.wrap ((i:Int)+1)=i+1:=IntWalk.i64_in _ (by omega);have y:((i:Int)+1).toNat=i+1:=(by omega);have z:decide ((0:Int)≤i)=true:=dT;have B:(0:Int)≤i:=(by omega);have C:(0:Int)≤(i:Int)+1:=(by omega);have D:(i:Int)≤s.size:=(by omega);have E:(i:Int)+1≤s.size:=(by omega);clear h h1 h2 h3 h4 h5 h6 g j k d m hc
 go_in
 go_wp2_with fail;refine l.o.mono ?_;rintro e w' ⟨rfl,q⟩;obtain rfl:=q.symm;go_wp2
 go_quiet (fail)
 go_wp2;refine bodyPost_ret (v:= .tuple #[.string (s.extract 0 i),.string (s.extract (i+1) s.size),.b true]) (by simp[results,Tryz.results217,go_sem]) rfl ?_;exact⟨_,_,rfl,n,o,hI (below_drewN (Below.refl _ _) _)⟩
theorem cutl_no(s:ByteArray)(c:UInt8)(w:World)(hs:s.size≤100000)(hc:c∉s.data.toList):
 Calls Tryz.prog 217 #[.string s,.string ⟨#[c]⟩] w fun e w'=>e= .returned (.tuple #[.string s,.string ⟨#[]⟩,.b false])∧w=w':=by
 rcases indexByte_spec s.data.toList c with⟨h1,h2⟩ | ⟨h1,_⟩
 ·
  have KI:=hI (Tryz.stringslite_Index_one s c w);rw[h2]at KI;clear h1 h2 hc
  go_in
  go_wp2_with fail;refine KI.o.mono ?_;rintro e w' ⟨rfl,hw⟩;obtain rfl:=hw.symm;go_wp2;refine bodyPost_ret (v:= .tuple #[.string s,.string ⟨#[]⟩,.b false]) (by simp[results,Tryz.results217,go_sem]) rfl ?_;exact⟨rfl,rfl⟩
 exact absurd h1 hc
theorem cut_yes(s:ByteArray)(c:UInt8)(a b:List UInt8)(w:World)(hs:s.size≤100000)(h:s.data.toList=a++c::b)(hc:c∉a):
 Calls Tryz.prog 171 #[.string s,.string ⟨#[c]⟩] w (CutP a b w):=by
 have K:=hI (cutl_yes s c a b w hs h hc);clear h hc
 go_in
 go_wp2_with fail;refine K.o.mono ?_;rintro e w1 ⟨A,B,rfl,HA,HB,HL⟩;go_wp2;refine bodyPost_ret (v:= .tuple #[.string A,.string B,.b true]) (by simp[results,Tryz.results171,go_sem]) rfl ?_;exact⟨_,_,rfl,HA,HB,HL⟩
theorem cut_no(s:ByteArray)(c:UInt8)(w:World)(hs:s.size≤100000)(hc:c∉s.data.toList):
 Calls Tryz.prog 171 #[.string s,.string ⟨#[c]⟩] w fun e w'=>e= .returned (.tuple #[.string s,.string ⟨#[]⟩,.b false])∧w=w':=by
 have K:=hI (cutl_no s c w hs hc);clear hc
 go_in
 go_wp2_with fail;refine K.o.mono ?_;rintro e w1 ⟨rfl,rfl⟩;go_wp2;refine bodyPost_ret (v:= .tuple #[.string s,.string ⟨#[]⟩,.b false]) (by simp[results,Tryz.results171,go_sem]) rfl ?_;exact⟨rfl,rfl⟩
theorem rdigits_any(s:ByteArray)(w:World)(hs:s.size≤100000):
 Calls Tryz.prog 175 #[.string s] w (Ret (.b (digs s.data.toList)) w):=by
 by_cases h0:s.data.toList=[]
 ·
  have a:=hI (show digs s.data.toList=false by rw[h0];rfl);have j:s.toList.isEmpty=true:=(by rw[bl_data,h0];rfl);have m:s.toList=[]:=(by rw[bl_data,h0]);clear h0
  go_in
  go_wp2;go_ret;exact⟨ret_bool a.o.symm,hI (Below.refl _ _)⟩
 have j:s.toList.isEmpty=false:=by rw[bl_data];cases hh:s.data.toList with | nil=>exact absurd hh h0 | cons x r=>rfl
 have g:=hI (Tryz.strings_Trim_digits s w (by omega))
 obtain⟨ts,c⟩:∃ts:ByteArray,ts=⟨(Lib.trimS s.data.toList [48,49,50,51,52,53,54,55,56,57]).toArray⟩:=⟨_,rfl⟩
 rw[←c]at g;have d:ts.toList=Lib.trimS s.data.toList [48,49,50,51,52,53,54,55,56,57]:=(by rw[c,bl_data])
 cases hall:s.data.toList.all isDig with
 | true=>
  have a:=hI (show digs s.data.toList=true by unfold digs;rw[hall];simp[h0]);have k:ts.toList=[]:=(by rw[d];exact(trim_digits _).2 hall);have l:ts.toList.isEmpty=true:=(by rw[k];rfl);clear h0 c d hall
  go_in
  go_wp2_with fail;refine g.o.mono ?_;rintro e w1 ⟨rfl,b⟩;have i:=hI b;clear b;go_wp2;go_ret
  exact⟨ret_bool a.o.symm,i⟩
 | false=>
  have a:=hI (show digs s.data.toList=false by unfold digs;rw[hall];simp)
  have l:ts.toList.isEmpty=false:=by
   rw[d]
   cases hh:Lib.trimS s.data.toList [48,49,50,51,52,53,54,55,56,57]with
   | nil=>rw[(trim_digits _).1 hh]at hall;cases hall
   | cons x r=>rfl
  clear h0 c d hall
  go_in
  go_wp2_with fail;refine g.o.mono ?_;rintro e w1 ⟨rfl,b⟩;have i:=hI b;clear b;go_wp2;go_ret;exact⟨ret_bool a.o.symm,i⟩
theorem bytes_below(w:World)(t:ByteArray):Below w.heap.size w (Lib.bytesWorld w 5 t):=Lib.bytesWorld_below w _ t
theorem number_ok(s:ByteArray)(w:World)(h:digs s.data.toList=true)(hl:s.data.toList.length≤18):
 Calls Tryz.prog 176 #[.string s] w (Ret (.i (dval s.data.toList:Nat)) w):=by
 have hsz:s.size≤18:=(by rw[←length_data];exact hl);have K:=hI (Tryz.strconv_ParseInt_10_at64_ok s (by omega) _ (parse_ok h hl) w);have hv:=dval_lt _ (digs_all h);have hp:10^s.data.toList.length≤10^18:=Nat.pow_le_pow_right (by omega) hl;have e18:(10:Nat)^18=1000000000000000000:=(by decide);rw[e18]at hp;have hv2:dval s.data.toList<1000000000000000000:=(by omega);clear h hl hv hp e18
 go_in
 go_wp2_with fail;refine K.o.mono ?_;rintro e w1 ⟨rfl,hw⟩;have HB:=hI (show Below w.heap.size w w1 by rcases hw with rfl | ⟨t,rfl⟩<;>first | exact Below.refl _ _ | exact bytes_below _ _);clear hw;go_wp2;go_ret;exact⟨rfl,HB⟩
def NumP(w:World)(e:Ending)(w':World):Prop:=∃v:Int,e= .returned (.i v)∧Hid (Below w.heap.size w w')
theorem rnumber_any(s:ByteArray)(w:World)(h:digs s.data.toList=true)(hs:s.size≤100000)(hT:RX w):
 Calls Tryz.prog 176 #[.string s] w (NumP w):=by
 rcases parse_any h with h1 | ⟨v,h1⟩
 ·
  obtain⟨tp,p,hv⟩:=hT.er;have K:=hI (Tryz.strconv_ParseInt_10_at64_range_var s (by omega) h1 tp p w hv);clear h h1 hv hT
  go_in
  go_wp2_with fail;refine K.o.mono ?_;rintro e w1 ⟨N,rfl,_,_,hb⟩;have HB:=hI hb;clear hb;go_wp2;go_ret;exact⟨_,rfl,HB⟩
 have K:=hI (Tryz.strconv_ParseInt_10_at64_ok s (by omega) _ h1 w);clear h h1 hT
 go_in
 go_wp2_with fail;refine K.o.mono ?_;rintro e w1 ⟨rfl,hw⟩;have HB:=hI (show Below w.heap.size w w1 by rcases hw with rfl | ⟨t,rfl⟩<;>first | exact Below.refl _ _ | exact bytes_below _ _);clear hw;go_wp2;go_ret;exact⟨_,rfl,HB⟩
