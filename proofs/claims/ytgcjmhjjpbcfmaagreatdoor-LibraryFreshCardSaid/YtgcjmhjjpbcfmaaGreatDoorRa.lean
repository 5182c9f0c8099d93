import Derived.Test.YtgcjmhjjpbcfmaaGreatDoorQF
set_option linter.unusedVariables false
set_option maxHeartbeats 4000000
namespace Go.Fl.Lb
open Go.Lib Go.Fl.Nm Go.Fl.Dy
def mulR(a b:D)(p:Nat)(up:Bool):D×Int:=
  if a.k=0∨b.k=0 then(⟨false,0,0⟩,0)else sgnR (a.neg !=b.neg) (a.k*b.k) (a.e+b.e) false p up
def mulE(a b:D)(p:Int)(up:Bool):D×Int:=if precB p then mulR a b p.toNat up else(⟨false,0,0⟩,2)
theorem mulE_vld(a b:D)(p:Int)(up:Bool):vld (mulE a b p up).1:=by
 unfold mulE mulR
 split
 ·
  split
  ·
   exact vld_zero
  exact sgnR_vld _ _ _ _ _ _
 exact vld_zero
def rndE(d:D)(p:Int)(up:Bool):D×Int:=if precB p then sgnR d.neg d.k d.e false p.toNat up else(⟨false,0,0⟩,2)
def topD(d:D):Int:=(blen d.k:Int)+d.e
def sumLow(a b:D)(p:Nat):Int:=
  if topD a-topD b≤2 then min (min a.e (topD a-p-8)) b.e else min a.e (topD a-p-8)
def sumY(b:D)(low:Int):Nat×Bool:=
  if low≤b.e then(2^(b.e-low).toNat*b.k,false)else(b.k/2^(low-b.e).toNat,decide (b.k%2^(low-b.e).toNat≠0))
def sumR(a b:D)(p:Nat):Nat×Int×Bool×Bool:=
  let low:=sumLow a b p
  let x:=2^(a.e-low).toNat*a.k
  let y:=sumY b low
  if a.neg=b.neg then(x+y.1,low,y.2,false)
  else
    let z:=y.1+(if y.2 then 1 else 0)
    if x<z then(z-x,low,false,true)else(x-z,low,y.2,false)
def addR2(a b:D)(p:Nat)(up:Bool):D×Int:=
  let s:=sumR a b p
  if s.1=0∧s.2.2.1=false then(⟨false,0,0⟩,0)else sgnR (a.neg !=s.2.2.2) s.1 s.2.1 s.2.2.1 p up
def addR(a b:D)(p:Nat)(up:Bool):D×Int:=
  if a.k=0 then sgnR b.neg b.k b.e false p up
  else if b.k=0 then sgnR a.neg a.k a.e false p up
  else if topD a<topD b then addR2 b a p up else addR2 a b p up
def addE(a b:D)(p:Int)(up:Bool):D×Int:=if precB p then addR a b p.toNat up else(⟨false,0,0⟩,2)
theorem addR2_vld(a b:D)(p:Nat)(up:Bool):vld (addR2 a b p up).1:=by
 unfold addR2;simp only
 split
 ·
  exact vld_zero
 exact sgnR_vld _ _ _ _ _ _
theorem addE_vld(a b:D)(p:Int)(up:Bool):vld (addE a b p up).1:=by
 unfold addE addR
 split
 ·
  split
  ·
   exact sgnR_vld _ _ _ _ _ _
  split
  ·
   exact sgnR_vld _ _ _ _ _ _
  split
  ·
   exact addR2_vld _ _ _ _
  exact addR2_vld _ _ _ _
 exact vld_zero
structure Iv where
  lo:D
  hi:D
  all:Bool
def D0:D:=⟨false,0,0⟩
def whI:Iv:=⟨D0,D0,true⟩
structure Iv.ok (x:Iv):Prop where
  l:vld x.lo
  h:vld x.hi
  a:x.all=true→x.lo=D0∧x.hi=D0
def Iv.val(x:Iv):Bool:=x.all||decide (cmpD x.lo x.hi≤0)
def Iv.kn(x:Iv):Bool:= !x.all&&decide (cmpD x.lo x.hi≤0)
def mdI(lo hi:D×Int):Iv:=if lo.2=0∧hi.2=0 then⟨lo.1,hi.1,false⟩else whI
theorem whI_ok:whI.ok:=⟨vld_zero,vld_zero,fun _=>⟨rfl,rfl⟩⟩
def addI(x y:Iv)(p:Int):Iv:=if x.kn&&y.kn&&precB p then mdI (addE x.lo y.lo p false) (addE x.hi y.hi p true)else whI
def prsI(x y:Iv):List (D×D):=[(x.lo,y.lo),(x.lo,y.hi),(x.hi,y.lo),(x.hi,y.hi)]
def frI(op:D→D→Bool→D×Int):List (D×D)→Option (D×D)→Iv
  | [],none=>⟨D0,D0,false⟩
  | [],some (l,h)=>⟨l,h,false⟩
  | (a,b)::r,o=>
    let l:=op a b false
    let h:=op a b true
    if l.2=0∧h.2=0 then
      match o with
      | none=>frI op r (some (l.1,h.1))
      | some (l0,h0)=>frI op r (some (if cmpD l.1 l0<0 then l.1 else l0,if 0<cmpD h.1 h0 then h.1 else h0))
    else whI
def fourI(op:D→D→Bool→D×Int)(x y:Iv):Iv:=frI op (prsI x y) none
def mulI(x y:Iv)(p:Int):Iv:=if x.kn&&y.kn&&precB p then fourI (fun a b up=>mulE a b p up) x y else whI
def signI(x:Iv):Int:=if x.kn then(if 0<sg x.lo then 1 else if sg x.hi<0 then -1 else 0)else 0
def divI(x y:Iv)(p:Int):Iv:=if x.kn&&y.kn&&precB p&&decide (signI y≠0)then fourI (fun a b up=>divE a b p up) x y else whI
def enI(n d:Int)(p:Nat):Iv:=⟨encE n d p false,encE n d p true,false⟩
def meetB(x y:Iv):Bool:=
  x.val&&y.val&&(x.all||y.all||decide (cmpD (if 0≤cmpD x.lo y.lo then x.lo else y.lo) (if cmpD x.hi y.hi≤0 then x.hi else y.hi)≤0))
def dcV:Iv:=divI (enI 1 1 53) (addI (enI 1 1 53) (mulI (enI 1 1 53) (enI 1 2 53) 53) 53) 53
theorem dcV_ok:dcV.all=false∧meetB dcV (enI 2 3 60)=true:=by decide+kernel
end Go.Fl.Lb
namespace Go.Proofs.YtgcjmhjjpbcfmaaGreatDoor
open Go.RowKit Go.Fl Go.Fl.Nm Go.Fl.Dy Go.Fl.Lb
theorem mul_bits9{a b i j:Nat}(ha:blen a≤i)(hb:blen b≤j):blen (a*b)≤i+j:=by
 refine blen_le ?_;rw[Nat.pow_add];exact Nat.mul_lt_mul'' (blen_lt ha) (blen_lt hb)
theorem mul_range(a b:D)(A B:Option Addr)(n c m d:Nat)(p:Int)(up:Bool)(w:World)(ha:Sl w A n c (limbs a.k))(hb:Sl w B m d (limbs b.k))(va:vld a)(vb:vld b)(hT:RB w)(hp:precB p=false):
 Calls Tryz.prog 236 #[.agg #[.b a.neg,.l A n c,.i a.e],.agg #[.b b.neg,.l B m d,.i b.e],.i p,.b up] w (DyE (mulE a b p up) w):=by
 have s:=hI ha;have u:=hI hb;have x:=hI va;have y:=hI vb;have J:n≤256:=(by rw[←ha.len];exact vld_len va);have L:m≤256:=(by rw[←hb.len];exact vld_len vb);have M:=vld_ebd va;have N:=vld_ebd vb;have O:=vld_bits va;have P:=vld_bits vb;have Q:=hI ha.len;have R:=hI hb.len;clear ha hb va vb hT;have z:=hI (show errP p=2 by unfold errP;rw[hp];rfl);have C:=hI (show mulE a b p up=(⟨false,0,0⟩,2)by unfold mulE;rw[hp];rfl);clear hp
 go_in
 go_wp2_with fail;obtain⟨i,g⟩:=eX (((((w.alloc (.cells #[.b a.neg,.l A n c,.i a.e] 75)).alloc (.cells #[.b b.neg,.l B m d,.i b.e] 75)).alloc (.cells #[.b false,.sn,.i 0] 75)).alloc (.cells #[.b a.neg,.l A n c,.i a.e,.b b.neg,.l B m d,.i b.e] 75)));have j:=hI (show Below w.heap.size w i by rw[g];exact below_a4 _ _ _ _ _);have E:=hI (show Blk i (w.heap.size) 75 #[.b a.neg,.l A n c,.i a.e]by rw[g];exact(((Blk.new _ _ _).alloc _).alloc _).alloc _);have F:=hI (show Blk i (w.heap.size+1) 75 #[.b b.neg,.l B m d,.i b.e]by rw[g];exact((Blk.new1 _ _ _ _).alloc _).alloc _);have G:=hI (show Blk i (w.heap.size+1+1) 75 #[.b false,.sn,.i 0]by rw[g];exact(Blk.new2 _ _ _ _ _).alloc _);have H:=hI (show Blk i (w.heap.size+1+1+1) 75 #[.b a.neg,.l A n c,.i a.e,.b b.neg,.l B m d,.i b.e]by rw[g];exact Blk.new3 _ _ _ _ _ _);rw[←g];clear g;refine(fault2_any p (w.heap.size+1+1+1) a A n c b B m d i H.o (s.o.belowW j.o) x.o (u.o.belowW j.o) y.o).mono ?_;rintro e w2 ⟨rfl,l⟩;have q:=E.o.b9 l;have r:=F.o.b9 l;have o:=G.o.b9 l;rw[z.o];have S:=q.o.cell;have T:=q.o.frozen;have U:=r.o.cell;have V:=r.o.frozen;have I:=o.o.cell;have W:=o.o.frozen;go_wp2;refine bodyPost_ret (v:= .tuple #[.agg #[.b false,.sn,.i 0],.i 2]) (by simp[results,Tryz.results236,go_sem,I]) rfl ?_;rw[C.o];exact⟨none,0,0,rfl,hI (by rw[limbs_zero];exact Sl.none_ _),hI (store3_below (j.o.trans (l.o.mono j.o.size)) o.o _ _ _ (by omega))⟩
theorem mul_null1(a b:D)(A B:Option Addr)(n c m d:Nat)(p:Int)(up:Bool)(w:World)(ha:Sl w A n c (limbs a.k))(hb:Sl w B m d (limbs b.k))(va:vld a)(vb:vld b)(hT:RB w)(hp:precB p=true)(hy:a.k=0):
 Calls Tryz.prog 236 #[.agg #[.b a.neg,.l A n c,.i a.e],.agg #[.b b.neg,.l B m d,.i b.e],.i p,.b up] w (DyE (mulE a b p up) w):=by
 have u:=hI ha;have x:=hI hb;have y:=hI va;have z:=hI vb;have M:n≤256:=(by rw[←ha.len];exact vld_len va);have N:m≤256:=(by rw[←hb.len];exact vld_len vb);have O:=vld_ebd va;have P:=vld_ebd vb;have Q:=vld_bits va;have R:=vld_bits vb;have C:=hI ha.len;have S:=hI hb.len;clear ha hb va vb hT;have E:=hI (show errP p=0 by unfold errP;rw[hp];rfl);have F:=hI (show mulE a b p up=(⟨false,0,0⟩,0)by unfold mulE;rw[hp];unfold mulR;rw[if_pos (Or.inl hy)];rfl);have q:n=0:=(by rw[←C.o,hy,limbs_zero];rfl);have T:((n:Int)==0)=true:=(by simp[q]);clear hp hy q
 go_in
 go_wp2_with fail;obtain⟨i,g⟩:=eX (((((w.alloc (.cells #[.b a.neg,.l A n c,.i a.e] 75)).alloc (.cells #[.b b.neg,.l B m d,.i b.e] 75)).alloc (.cells #[.b false,.sn,.i 0] 75)).alloc (.cells #[.b a.neg,.l A n c,.i a.e,.b b.neg,.l B m d,.i b.e] 75)));have j:=hI (show Below w.heap.size w i by rw[g];exact below_a4 _ _ _ _ _);have G:=hI (show Blk i (w.heap.size) 75 #[.b a.neg,.l A n c,.i a.e]by rw[g];exact(((Blk.new _ _ _).alloc _).alloc _).alloc _);have H:=hI (show Blk i (w.heap.size+1) 75 #[.b b.neg,.l B m d,.i b.e]by rw[g];exact((Blk.new1 _ _ _ _).alloc _).alloc _);have I:=hI (show Blk i (w.heap.size+1+1) 75 #[.b false,.sn,.i 0]by rw[g];exact(Blk.new2 _ _ _ _ _).alloc _);have J:=hI (show Blk i (w.heap.size+1+1+1) 75 #[.b a.neg,.l A n c,.i a.e,.b b.neg,.l B m d,.i b.e]by rw[g];exact Blk.new3 _ _ _ _ _ _);rw[←g];clear g;refine(fault2_any p (w.heap.size+1+1+1) a A n c b B m d i J.o (u.o.belowW j.o) y.o (x.o.belowW j.o) z.o).mono ?_;rintro e w2 ⟨rfl,l⟩;have r:=G.o.b9 l;have s:=H.o.b9 l;have o:=I.o.b9 l;rw[E.o];have U:=r.o.cell;have V:=r.o.frozen;have W:=s.o.cell;have X:=s.o.frozen;have L:=o.o.cell;have Y:=o.o.frozen;go_wp2;refine bodyPost_ret (v:= .tuple #[.agg #[.b false,.sn,.i 0],.i 0]) (by simp[results,Tryz.results236,go_sem,L]) rfl ?_;rw[F.o];exact⟨none,0,0,rfl,hI (by rw[limbs_zero];exact Sl.none_ _),hI (store3_below (j.o.trans (l.o.mono j.o.size)) o.o _ _ _ (by omega))⟩
theorem mul_null2(a b:D)(A B:Option Addr)(n c m d:Nat)(p:Int)(up:Bool)(w:World)(ha:Sl w A n c (limbs a.k))(hb:Sl w B m d (limbs b.k))(va:vld a)(vb:vld b)(hT:RB w)(hp:precB p=true)(hy:a.k≠0)(hz:b.k=0):
 Calls Tryz.prog 236 #[.agg #[.b a.neg,.l A n c,.i a.e],.agg #[.b b.neg,.l B m d,.i b.e],.i p,.b up] w (DyE (mulE a b p up) w):=by
 have u:=hI ha;have x:=hI hb;have y:=hI va;have z:=hI vb;have O:n≤256:=(by rw[←ha.len];exact vld_len va);have P:m≤256:=(by rw[←hb.len];exact vld_len vb);have Q:=vld_ebd va;have R:=vld_ebd vb;have S:=vld_bits va;have T:=vld_bits vb;have C:=hI ha.len;have E:=hI hb.len;clear ha hb va vb hT;have F:=hI (show errP p=0 by unfold errP;rw[hp];rfl);have G:=hI (show mulE a b p up=(⟨false,0,0⟩,0)by unfold mulE;rw[hp];unfold mulR;rw[if_pos (Or.inr hz)];rfl);have H:n≠0:=(by rw[←C.o];intro h;exact hy (limbs_eq_nil.1 (List.eq_nil_of_length_eq_zero h)));have U:((n:Int)==0)=false:=(by rw[beq_eq_false_iff_ne];omega);have q:m=0:=(by rw[←E.o,hz,limbs_zero];rfl);have V:((m:Int)==0)=true:=(by simp[q]);clear hp hy H hz q
 go_in
 go_wp2_with fail;obtain⟨i,g⟩:=eX (((((w.alloc (.cells #[.b a.neg,.l A n c,.i a.e] 75)).alloc (.cells #[.b b.neg,.l B m d,.i b.e] 75)).alloc (.cells #[.b false,.sn,.i 0] 75)).alloc (.cells #[.b a.neg,.l A n c,.i a.e,.b b.neg,.l B m d,.i b.e] 75)));have j:=hI (show Below w.heap.size w i by rw[g];exact below_a4 _ _ _ _ _);have I:=hI (show Blk i (w.heap.size) 75 #[.b a.neg,.l A n c,.i a.e]by rw[g];exact(((Blk.new _ _ _).alloc _).alloc _).alloc _);have J:=hI (show Blk i (w.heap.size+1) 75 #[.b b.neg,.l B m d,.i b.e]by rw[g];exact((Blk.new1 _ _ _ _).alloc _).alloc _);have L:=hI (show Blk i (w.heap.size+1+1) 75 #[.b false,.sn,.i 0]by rw[g];exact(Blk.new2 _ _ _ _ _).alloc _);have M:=hI (show Blk i (w.heap.size+1+1+1) 75 #[.b a.neg,.l A n c,.i a.e,.b b.neg,.l B m d,.i b.e]by rw[g];exact Blk.new3 _ _ _ _ _ _);rw[←g];clear g;refine(fault2_any p (w.heap.size+1+1+1) a A n c b B m d i M.o (u.o.belowW j.o) y.o (x.o.belowW j.o) z.o).mono ?_;rintro e w2 ⟨rfl,l⟩;have r:=I.o.b9 l;have s:=J.o.b9 l;have o:=L.o.b9 l;rw[F.o];have W:=r.o.cell;have X:=r.o.frozen;have Y:=s.o.cell;have Z:=s.o.frozen;have N:=o.o.cell;have fr:=o.o.frozen;go_wp2;refine bodyPost_ret (v:= .tuple #[.agg #[.b false,.sn,.i 0],.i 0]) (by simp[results,Tryz.results236,go_sem,N]) rfl ?_;rw[G.o];exact⟨none,0,0,rfl,hI (by rw[limbs_zero];exact Sl.none_ _),hI (store3_below (j.o.trans (l.o.mono j.o.size)) o.o _ _ _ (by omega))⟩
theorem mul_pos(a b:D)(A B:Option Addr)(n c m d:Nat)(p:Int)(up:Bool)(w:World)(ha:Sl w A n c (limbs a.k))(hb:Sl w B m d (limbs b.k))(va:vld a)(vb:vld b)(hT:RB w)(hp:precB p=true)(hy:a.k≠0)(hz:b.k≠0):
 Calls Tryz.prog 236 #[.agg #[.b a.neg,.l A n c,.i a.e],.agg #[.b b.neg,.l B m d,.i b.e],.i p,.b up] w (DyE (mulE a b p up) w):=by
 have HA:=hI ha;have HB:=hI hb;have VA:=hI va;have VB:=hI vb;have HT:=hI hT;have hn:n≤256:=(by rw[←ha.len];exact vld_len va);have hm:m≤256:=(by rw[←hb.len];exact vld_len vb);have a6:=vld_ebd va;have a7:=vld_ebd vb;have aj:=vld_bits va;have ak:=vld_bits vb;have al:=hI ha.len;have am:=hI hb.len;clear ha hb va vb hT;have HE:=hI (show errP p=0 by unfold errP;rw[hp];rfl);have ao:n≠0:=(by rw[←al.o];intro h;exact hy (limbs_eq_nil.1 (List.eq_nil_of_length_eq_zero h)));have dn:((n:Int)==0)=false:=(by rw[beq_eq_false_iff_ne];omega);have ap:m≠0:=(by rw[←am.o];intro h;exact hz (limbs_eq_nil.1 (List.eq_nil_of_length_eq_zero h)));have dm:((m:Int)==0)=false:=(by rw[beq_eq_false_iff_ne];omega);have ba:=precB_iff.1 hp
 obtain⟨P,rfl⟩:∃P:Nat,p=P:=⟨p.toNat,by omega⟩
 obtain⟨C,E⟩:∃z:Bool,z=(a.neg !=b.neg):=⟨_,rfl⟩
 have bb:(!(a.neg==b.neg))=C:=E.symm
 obtain⟨q,s⟩:∃q:Nat,q=a.k*b.k:=⟨_,rfl⟩
 have HQ:=hI s.symm
 have HF:=hI (show mulE a b P up=sgnR C q (a.e+b.e) false P up by
  unfold mulE;rw[hp];unfold mulR;rw[if_neg (show ¬(a.k=0∨b.k=0)by omega),E,s,Int.toNat_natCast]
  rfl)
 have s1:IntKind.i64.wrap (a.e+b.e)=a.e+b.e:=IntWalk.i64_in _ (by omega)
 have S:=hI (show(limbs q).length≤256 by
  rw[s]
  exact limbs_bits (by have:=mul_bits9 aj ak;omega))
 clear hp hz hy ap ao s E
 go_in
 go_wp2_with fail;obtain⟨j,g⟩:=eX (((((w.alloc (.cells #[.b a.neg,.l A n c,.i a.e] 75)).alloc (.cells #[.b b.neg,.l B m d,.i b.e] 75)).alloc (.cells #[.b false,.sn,.i 0] 75)).alloc (.cells #[.b a.neg,.l A n c,.i a.e,.b b.neg,.l B m d,.i b.e] 75)));have u:=hI (show Below w.heap.size w j by rw[g];exact below_a4 _ _ _ _ _);have T:=HA.o.b9 u;have U:=HB.o.b9 u;have au:=hI (show Blk j (w.heap.size) 75 #[.b a.neg,.l A n c,.i a.e]by rw[g];exact(((Blk.new _ _ _).alloc _).alloc _).alloc _);have av:=hI (show Blk j (w.heap.size+1) 75 #[.b b.neg,.l B m d,.i b.e]by rw[g];exact((Blk.new1 _ _ _ _).alloc _).alloc _);have aw:=hI (show Blk j (w.heap.size+1+1) 75 #[.b false,.sn,.i 0]by rw[g];exact(Blk.new2 _ _ _ _ _).alloc _);have ax:=hI (show Blk j (w.heap.size+1+1+1) 75 #[.b a.neg,.l A n c,.i a.e,.b b.neg,.l B m d,.i b.e]by rw[g];exact Blk.new3 _ _ _ _ _ _);rw[←g];clear g;refine(fault2_any P (w.heap.size+1+1+1) a A n c b B m d j ax.o T.o VA.o U.o VB.o).mono ?_;rintro e w2 ⟨rfl,i⟩;have F:=au.o.b9 i;have G:=av.o.b9 i;have H:=aw.o.b9 i;have ay:=u.o.t i;rw[HE.o];have I:=F.o.cell;have J:=F.o.frozen;have L:=G.o.cell;have N:=G.o.frozen;have o:=H.o.cell;have x:=H.o.frozen;go_wp2_with fail;refine(nMul_ok A B n c m d _ _ w2 (T.o.belowW i.o) (U.o.belowW i.o) hn hm).mono ?_;rw[val_limbs,val_limbs,HQ.o];rintro e x3 ⟨Q,O,l,er,rfl,a0,a1,r⟩
 obtain⟨he,hl⟩:er=0∧l=limbs q:=by
  rcases a1.o with⟨h1,h2,_⟩ | ⟨_,_,h3⟩
  ·
   exact⟨h1,h2⟩
  have:=S.o;omega
 subst he hl;clear I J L N o x;have V:=F.o.b9 r;have W:=G.o.b9 r;have R:=H.o.b9 r;have X:=ay.o.t r;have Y:=hI a0.o.sl;have a4:O≤256:=(by rw[←Y.o.len];exact S.o);have I:=V.o.cell;have J:=V.o.frozen;have L:=W.o.cell;have N:=W.o.frozen;have o:=R.o.cell;have x:=R.o.frozen;go_wp2_with fail;refine(signed_any C Q O O _ (a.e+b.e) false up P x3 Y.o (((HT.o.belowW u.o).belowW i.o).belowW r.o) a4 (by omega) (by omega) (by omega) (by omega)).mono ?_;rw[val_limbs,←HF.o];rintro e w4 ⟨M,Z,mc,rfl,HM,ab⟩;have y:=R.o.b9 ab;clear I J L N o x;have o:=y.o.cell;have x:=y.o.frozen;go_wp2;refine bodyPost_ret (v:= .tuple #[.agg #[.b (mulE a b P up).1.neg,.l M Z mc,.i (mulE a b P up).1.e],.i (mulE a b P up).2]) (by simp[results,Tryz.results236,go_sem,o]) rfl ?_;exact⟨M,Z,mc,rfl,hI (store3_sl (HM.o) y.o noU3 _ _ _),hI (store3_below (X.o.trans (ab.o.mono X.o.size)) y.o _ _ _ (by omega))⟩
theorem rmul_any(a b:D)(A B:Option Addr)(n c m d:Nat)(p:Int)(up:Bool)(w:World)(ha:Sl w A n c (limbs a.k))(hb:Sl w B m d (limbs b.k))(va:vld a)(vb:vld b)(hT:RB w):
 Calls Tryz.prog 236 #[.agg #[.b a.neg,.l A n c,.i a.e],.agg #[.b b.neg,.l B m d,.i b.e],.i p,.b up] w (DyE (mulE a b p up) w):=by
 cases hp:precB p with
 | false=>exact mul_range a b A B n c m d p up w ha hb va vb hT hp
 | true=>
  by_cases hy:a.k=0
  ·
   exact mul_null1 a b A B n c m d p up w ha hb va vb hT hp hy
  by_cases hz:b.k=0
  ·
   exact mul_null2 a b A B n c m d p up w ha hb va vb hT hp hy hz
  exact mul_pos a b A B n c m d p up w ha hb va vb hT hp hy hz
theorem MulDown_any(a b:D)(A B:Option Addr)(n c m d:Nat)(p:Int)(w:World)(ha:Sl w A n c (limbs a.k))(hb:Sl w B m d (limbs b.k))(va:vld a)(vb:vld b)(hT:RB w):
 Calls Tryz.prog 203 #[.agg #[.b a.neg,.l A n c,.i a.e],.agg #[.b b.neg,.l B m d,.i b.e],.i p] w (DyE (mulE a b p false) w):=by
 have r:=hI ha;have s:=hI hb;have u:=hI va;have y:=hI vb;have z:=hI hT;clear ha hb va vb hT
 go_in
 go_wp2_with fail;obtain⟨l,i⟩:=eX ((((w.alloc (.cells #[.b a.neg,.l A n c,.i a.e] 75)).alloc (.cells #[.b b.neg,.l B m d,.i b.e] 75)).alloc (.cells #[.b false,.sn,.i 0] 75)));have g:=hI (show Below w.heap.size w l by rw[i];exact below_a3 _ _ _ _);have C:=hI (show Blk l (w.heap.size+1+1) 75 #[.b false,.sn,.i 0]by rw[i];exact Blk.new2 _ _ _ _ _);rw[←i];clear i;refine(rmul_any a b A B n c m d p false l (r.o.belowW g.o) (s.o.belowW g.o) u.o y.o (z.o.belowW g.o)).mono ?_;rintro e w2 ⟨X,x,o,rfl,E,q⟩;have j:=C.o.b9 q;have F:=j.o.cell;have G:=j.o.frozen;go_wp2;refine bodyPost_ret (v:= .tuple #[.agg #[.b (mulE a b p false).1.neg,.l X x o,.i (mulE a b p false).1.e],.i (mulE a b p false).2]) (by simp[results,Tryz.results203,go_sem,F]) rfl ?_;exact⟨X,x,o,rfl,hI (store3_sl (E.o) j.o noU3 _ _ _),hI (store3_below (g.o.trans (q.o.mono g.o.size)) j.o _ _ _ (by omega))⟩
theorem MulUp_any(a b:D)(A B:Option Addr)(n c m d:Nat)(p:Int)(w:World)(ha:Sl w A n c (limbs a.k))(hb:Sl w B m d (limbs b.k))(va:vld a)(vb:vld b)(hT:RB w):
 Calls Tryz.prog 204 #[.agg #[.b a.neg,.l A n c,.i a.e],.agg #[.b b.neg,.l B m d,.i b.e],.i p] w (DyE (mulE a b p true) w):=by
 have r:=hI ha;have s:=hI hb;have u:=hI va;have y:=hI vb;have z:=hI hT;clear ha hb va vb hT
 go_in
 go_wp2_with fail;obtain⟨l,i⟩:=eX ((((w.alloc (.cells #[.b a.neg,.l A n c,.i a.e] 75)).alloc (.cells #[.b b.neg,.l B m d,.i b.e] 75)).alloc (.cells #[.b false,.sn,.i 0] 75)));have g:=hI (show Below w.heap.size w l by rw[i];exact below_a3 _ _ _ _);have C:=hI (show Blk l (w.heap.size+1+1) 75 #[.b false,.sn,.i 0]by rw[i];exact Blk.new2 _ _ _ _ _);rw[←i];clear i;refine(rmul_any a b A B n c m d p true l (r.o.belowW g.o) (s.o.belowW g.o) u.o y.o (z.o.belowW g.o)).mono ?_;rintro e w2 ⟨X,x,o,rfl,E,q⟩;have j:=C.o.b9 q;have F:=j.o.cell;have G:=j.o.frozen;go_wp2;refine bodyPost_ret (v:= .tuple #[.agg #[.b (mulE a b p true).1.neg,.l X x o,.i (mulE a b p true).1.e],.i (mulE a b p true).2]) (by simp[results,Tryz.results204,go_sem,F]) rfl ?_;exact⟨X,x,o,rfl,hI (store3_sl (E.o) j.o noU3 _ _ _),hI (store3_below (g.o.trans (q.o.mono g.o.size)) j.o _ _ _ (by omega))⟩
theorem of_any(a:D)(A:Option Addr)(n c:Nat)(w:World):Calls Tryz.prog 313 #[.agg #[.b a.neg,.l A n c,.i a.e]] w (Ret (.agg #[.l A n c,.i a.e,.b false]) w):=by
 go_in
 go_wp2_with fail;obtain⟨w1,hw⟩:=eX (((w.alloc (.cells #[.b a.neg,.l A n c,.i a.e] 75)).alloc (.cells #[.l A n c,.i a.e,.b false] 206)));have HB1:=hI (show Below w.heap.size w w1 by rw[hw];exact below_a2 _ _ _);have F1r:=hI (show Blk w1 (w.heap.size+1) 206 #[.l A n c,.i a.e,.b false]by rw[hw];exact Blk.new1 _ _ _ _);rw[←hw];clear hw;have pr:=F1r.o.cell;refine bodyPost_ret (v:= .agg #[.l A n c,.i a.e,.b false]) (by simp[results,Tryz.results313,go_sem,pr]) rfl ?_;exact⟨rfl,HB1⟩
theorem rnd_range(a:D)(A:Option Addr)(n c:Nat)(p:Int)(up:Bool)(w:World)(ha:Sl w A n c (limbs a.k))(va:vld a)(hT:RB w)(hp:precB p=false):
 Calls Tryz.prog 278 #[.agg #[.b a.neg,.l A n c,.i a.e],.i p,.b up] w (DyE (rndE a p up) w):=by
 have m:=hI ha;have o:=hI va;have z:n≤256:=(by rw[←ha.len];exact vld_len va);have B:=vld_ebd va;clear ha va hT;have q:=hI (show errP p=2 by unfold errP;rw[hp];rfl);have r:=hI (show rndE a p up=(⟨false,0,0⟩,2)by unfold rndE;rw[hp];rfl);clear hp
 go_in
 go_wp2_with fail;obtain⟨d,b⟩:=eX ((((w.alloc (.cells #[.b a.neg,.l A n c,.i a.e] 75)).alloc (.cells #[.b false,.sn,.i 0] 75)).alloc (.cells #[.b a.neg,.l A n c,.i a.e] 75)));have g:=hI (show Below w.heap.size w d by rw[b];exact below_a3 _ _ _ _);have s:=hI (show Blk d (w.heap.size) 75 #[.b a.neg,.l A n c,.i a.e]by rw[b];exact((Blk.new _ _ _).alloc _).alloc _);have u:=hI (show Blk d (w.heap.size+1) 75 #[.b false,.sn,.i 0]by rw[b];exact(Blk.new1 _ _ _ _).alloc _);have x:=hI (show Blk d (w.heap.size+1+1) 75 #[.b a.neg,.l A n c,.i a.e]by rw[b];exact Blk.new2 _ _ _ _ _);rw[←b];clear b;refine(fault1_any p (w.heap.size+1+1) a A n c d x.o (m.o.belowW g.o) o.o).mono ?_;rintro e w2 ⟨rfl,i⟩;have l:=s.o.b9 i;have j:=u.o.b9 i;rw[q.o];have C:=l.o.cell;have E:=l.o.frozen;have y:=j.o.cell;have F:=j.o.frozen;go_wp2;refine bodyPost_ret (v:= .tuple #[.agg #[.b false,.sn,.i 0],.i 2]) (by simp[results,Tryz.results278,go_sem,y]) rfl ?_;rw[r.o];exact⟨none,0,0,rfl,hI (by rw[limbs_zero];exact Sl.none_ _),hI (store3_below (g.o.trans (i.o.mono g.o.size)) j.o _ _ _ (by omega))⟩
theorem rnd_pos(a:D)(A:Option Addr)(n c:Nat)(p:Int)(up:Bool)(w:World)(ha:Sl w A n c (limbs a.k))(va:vld a)(hT:RB w)(hp:precB p=true):
    Calls Tryz.prog 278 #[.agg #[.b a.neg,.l A n c,.i a.e],.i p,.b up] w (DyE (rndE a p up) w):=by
  have H:=hI ha;have I:=hI va;have J:=hI hT;have L:n≤256:=(by rw[←ha.len];exact vld_len va);have aj:=vld_ebd va;clear ha va hT;have N:=hI (show errP p=0 by unfold errP;rw[hp];rfl);have ak:=precB_iff.1 hp
  obtain⟨P,rfl⟩:∃P:Nat,p=P:=⟨p.toNat,by omega⟩
  have O:=hI (show rndE a P up=sgnR a.neg a.k a.e false P up by
    unfold rndE
    rw[hp,if_pos rfl,Int.toNat_natCast])
  clear hp
  go_in
  go_wp2_with fail;obtain⟨j,g⟩:=eX ((((w.alloc (.cells #[.b a.neg,.l A n c,.i a.e] 75)).alloc (.cells #[.b false,.sn,.i 0] 75)).alloc (.cells #[.b a.neg,.l A n c,.i a.e] 75)));have q:=hI (show Below w.heap.size w j by rw[g];exact below_a3 _ _ _ _);have u:=H.o.b9 q;have Q:=J.o.b9 q;have R:=hI (show Blk j (w.heap.size) 75 #[.b a.neg,.l A n c,.i a.e]by rw[g];exact((Blk.new _ _ _).alloc _).alloc _);have S:=hI (show Blk j (w.heap.size+1) 75 #[.b false,.sn,.i 0]by rw[g];exact(Blk.new1 _ _ _ _).alloc _);have x:=hI (show Blk j (w.heap.size+1+1) 75 #[.b a.neg,.l A n c,.i a.e]by rw[g];exact Blk.new2 _ _ _ _ _);rw[←g];clear g;refine(fault1_any P (w.heap.size+1+1) a A n c j x.o u.o I.o).mono ?_;rintro e w2 ⟨rfl,i⟩;have T:=u.o.b9 i;have U:=Q.o.b9 i;have y:=R.o.b9 i;have d:=S.o.b9 i;have al:=x.o.b9 i;have z:=q.o.t i;rw[N.o];obtain⟨V,am,W,an,X,ao⟩:=y.o.al3;have ap:(w2).cell? ⟨w.heap.size+1,0,none⟩=some (.b false):=d.o.cell 0;have aq:(w2).frozen? ⟨w.heap.size+1,0,none⟩=false:=d.o.frozen 0;have ar:(w2).cell? ⟨w.heap.size+1,1,none⟩=some (.sn):=d.o.cell 1;have au:(w2).frozen? ⟨w.heap.size+1,1,none⟩=false:=d.o.frozen 1;have av:(w2).cell? ⟨w.heap.size+1,2,none⟩=some (.i 0):=d.o.cell 2;have aw:(w2).frozen? ⟨w.heap.size+1,2,none⟩=false:=d.o.frozen 2;go_wp2
  go_region_held3 (fun w'=>w'.cell? ⟨w.heap.size,0,none⟩=some (.b a.neg)∧w'.cell? ⟨w.heap.size,1,none⟩=some (.l A n c)∧w'.cell? ⟨w.heap.size,2,none⟩=some (.i a.e)) (first | exact⟨V,W,X⟩ | exact⟨Y,Z,v2⟩ | exact⟨B,C,E⟩ | exact⟨store3_far b.o B (by omega) _ _ _,store3_far b.o C (by omega) _ _ _,store3_far b.o E (by omega) _ _ _⟩) (first
    | (go_at_call 313
       refine(of_any a A n c _).mono ?_;rintro e x4 ⟨rfl,l⟩;have m:=hI (show Below w2.heap.size w2 x4 from⟨l.o.os,l.o.tape,l.o.output,l.o.size,l.o.block⟩);have o:=y.o.b9 m;have A4:=T.o.b9 m;have T4:=U.o.b9 m;have ad:=d.o.b9 m;have Y:x4.cell? ⟨w.heap.size,0,none⟩=some (.b a.neg):=o.o.cell 0;have Z:x4.cell? ⟨w.heap.size,1,none⟩=some (.l A n c):=o.o.cell 1
       have v2:x4.cell? ⟨w.heap.size,2,none⟩=some (.i a.e):=o.o.cell 2)
    | (go_at_call 143
       refine(signed_any a.neg A n c _ a.e false up P _ A4.o T4.o L (by omega) (by omega) (by omega) (by omega)).mono ?_;rw[val_limbs,←O.o];rintro e x5 ⟨M,F,G,rfl,HM,r⟩;have H5:=m.o.t r;have s:=o.o.b9 r;have b:=ad.o.b9 r;have B:x5.cell? ⟨w.heap.size,0,none⟩=some (.b a.neg):=s.o.cell 0;have C:x5.cell? ⟨w.heap.size,1,none⟩=some (.l A n c):=s.o.cell 1;have E:x5.cell? ⟨w.heap.size,2,none⟩=some (.i a.e):=s.o.cell 2;have ag:x5.cell? ⟨w.heap.size+1,0,none⟩=some (.b false):=b.o.cell 0;have ah:x5.cell? ⟨w.heap.size+1,1,none⟩=some (.sn):=b.o.cell 1;have ai:x5.cell? ⟨w.heap.size+1,2,none⟩=some (.i 0):=b.o.cell 2;have ax:x5.frozen? ⟨w.heap.size+1,0,none⟩=false:=b.o.frozen 0;have ay:x5.frozen? ⟨w.heap.size+1,1,none⟩=false:=b.o.frozen 1
       have az:x5.frozen? ⟨w.heap.size+1,2,none⟩=false:=b.o.frozen 2))
  go_wp2;refine bodyPost_ret (v:= .tuple #[.agg #[.b (rndE a P up).1.neg,.l M F G,.i (rndE a P up).1.e],.i (rndE a P up).2]) (by simp[results,Tryz.results278,go_sem,ag,ah,ai]) rfl ?_;exact⟨M,F,G,rfl,hI (store3_sl HM.o b.o noU3 _ _ _),hI (store3_below (z.o.trans (H5.o.mono z.o.size)) b.o _ _ _ (by omega))⟩
theorem rnd_any(a:D)(A:Option Addr)(n c:Nat)(p:Int)(up:Bool)(w:World)(ha:Sl w A n c (limbs a.k))(va:vld a)(hT:RB w):
 Calls Tryz.prog 278 #[.agg #[.b a.neg,.l A n c,.i a.e],.i p,.b up] w (DyE (rndE a p up) w):=by
 cases hp:precB p with
 | false=>exact rnd_range a A n c p up w ha va hT hp
 | true=>exact rnd_pos a A n c p up w ha va hT hp
