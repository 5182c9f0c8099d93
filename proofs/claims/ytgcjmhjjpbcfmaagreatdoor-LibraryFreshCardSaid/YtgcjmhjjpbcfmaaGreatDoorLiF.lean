import Derived.Test.YtgcjmhjjpbcfmaaGreatDoorLiE
open List renaming setIfInBounds_toArray → Lj,set_cons_zero → Lk,set_cons_succ → Lq
set_option maxHeartbeats 16000000
set_option maxRecDepth 100000
namespace Go.Fl.Lb
open Go.Lib Go.Fl.Nm Go.Fl.Dy
def loS(j:Nat)(l o:D):D:=if j=0∨cmpD l o<0 then l else o
def hiS(j:Nat)(h o:D):D:=if j=0∨0<cmpD h o then h else o
theorem fr_err{op:D→D→Bool→D×Int}{L:List (D×D)}{j:Nat}{a b:D}{o:Option (D×D)}{R:Iv}(h:frI op (L.drop j) o=R)(hg:L[j]? =some (a,b))(he:¬((op a b false).2=0∧(op a b true).2=0)):whI=R:=by
 obtain⟨hj,hx⟩:=List.getElem?_eq_some_iff.1 hg;rw[List.drop_eq_getElem_cons hj,hx]at h;rw[←h];unfold frI;simp only;rw[if_neg he]
theorem fr_ok{op:D→D→Bool→D×Int}{L:List (D×D)}{j:Nat}{a b lo hi:D}{R:Iv}(h:frI op (L.drop j) (if j=0 then none else some (lo,hi))=R)(hg:L[j]? =some (a,b))(h1:(op a b false).2=0)(h2:(op a b true).2=0):
 frI op (L.drop (j+1)) (if j+1=0 then none else some (loS j (op a b false).1 lo,hiS j (op a b true).1 hi))=R:=by
 obtain⟨hj,hx⟩:=List.getElem?_eq_some_iff.1 hg
 rw[List.drop_eq_getElem_cons hj,hx]at h
 rw[←h,if_neg (Nat.succ_ne_zero j)]
 conv=>rhs;unfold frI
 simp only
 rw[if_pos ⟨h1,h2⟩]
 unfold loS hiS
 by_cases h0:j=0
 ·
  subst h0;simp
 simp[h0]
theorem fr_start{op:D→D→Bool→D×Int}{x y:Iv}{lo hi:D}:frI op ((prsI x y).drop 0) (if 0=0 then none else some (lo,hi))=fourI op x y:=by
 rw[List.drop_zero,if_pos rfl]
 rfl
theorem fr_end{op:D→D→Bool→D×Int}{x y:Iv}{lo hi:D}{R:Iv}(h:frI op ((prsI x y).drop 4) (if 4=0 then none else some (lo,hi))=R):(⟨lo,hi,false⟩:Iv)=R:=h
end Go.Fl.Lb
namespace Go.Proofs.YtgcjmhjjpbcfmaaGreatDoor
open Go.RowKit Go.Fl Go.Fl.Nm Go.Fl.Dy Go.Fl.Lb
theorem store3_lo{w:World}{g:Nat}{t:TypeId}{a0 a1 a2 a3 a4 a5 a6:Value}(hB:Blk w g t #[a0,a1,a2,a3,a4,a5,a6])(x y z:Value):((w.setCell ⟨g,0,none⟩ x).setCell ⟨g,1,none⟩ y).setCell ⟨g,2,none⟩ z=putB w g t #[x,y,z,a3,a4,a5,a6]:=by
 rw[hB.setCell_eq 0 x,(hB.put _).setCell_eq 1 y,putB_putB,(hB.put _).setCell_eq 2 z,putB_putB]
 rfl
theorem store3_hi{w:World}{g:Nat}{t:TypeId}{a0 a1 a2 a3 a4 a5 a6:Value}(hB:Blk w g t #[a0,a1,a2,a3,a4,a5,a6])(x y z:Value):((w.setCell ⟨g,3,none⟩ x).setCell ⟨g,4,none⟩ y).setCell ⟨g,5,none⟩ z=putB w g t #[a0,a1,a2,x,y,z,a6]:=by
 rw[hB.setCell_eq 3 x,(hB.put _).setCell_eq 4 y,putB_putB,(hB.put _).setCell_eq 5 z,putB_putB]
 rfl
theorem below_grow9{g:Nat}{w0 w w':World}(h:Below w0.heap.size w0 w)(hg:w.grownBy w' (some g))(hB:w0.heap.size≤g):Below w0.heap.size w0 w':=
 ⟨hg.os.trans h.os,hg.tape.trans h.tape,hg.output.trans h.output,Nat.le_trans h.size hg.size,fun k hk=>(hg.block k (Nat.lt_of_lt_of_le hk (by have:=h.size;omega)) (fun e=>by injection e;omega)).trans (h.block k hk)⟩
theorem InI.far{w w':World}{g:Nat}{t:TypeId}{cs:Array Value}{v:IvN}(h:InI w v)(hB:Blk w g t cs)(hN:NoU cs)(hg:w.grownBy w' (some g)):InI w' v:=⟨h.l.far hB hN hg,h.h.far hB hN hg,h.o⟩
theorem wpList_store_new{ops:Array Oper}{rest:List Oper}{o:Oper}{a:Act}{w w0:World}{Q:Exit→Act→World→Prop}{t:TypeId}{p x:Operand}{c c':Array Value}(hg:o.guard=none)(hd:o.dst=none)(ho:o.op= .store t p x)(hp:a.eval p= .p w0.heap.size)(hx:a.eval x= .agg c')(hw:w=w0.alloc (.cells c t))
 (hi:(Tryz.prog.info? t).map (·.size)=some c'.size) (hc:c.size=c'.size) (h1:c'.all (·.oneCell')=true) (k:wpList Tryz.prog ops Q rest a (w0.alloc (.cells c' t))):wpList Tryz.prog ops Q (o::rest) a w:=by
 refine wpList_plain hg fun K hK=>?_
 subst hw;have hr:=run_storeAt_new (P:=Tryz.prog) w0 t c c' hi hc h1;unfold Oper.wp execOp;simp only[ho,hp,hx,Sem.run_bind,Sem.run_pure,Result.andThen_ok,hr];exact hK _ _ (by rw[hd];exact k)
theorem wpList_load_row{ops:Array Oper}{rest:List Oper}{o:Oper}{a:Act}{w:World}{Q:Exit→Act→World→Prop}{t e:TypeId}{p:Operand}{c:Array Value}{g n:Nat}{v:Value}(hg:o.guard=none)(hv:v= .agg c)(ho:o.op= .load t p)(hp:a.eval p= .p g)(hB:Blk w g t c)
 (hu:Tryz.prog.underlying t=some (.array n e)) (hi:(Tryz.prog.info? t).map (·.size)=some c.size) (k:wpList Tryz.prog ops Q rest (a.put o.dst v) w):wpList Tryz.prog ops Q (o::rest) a w:=by
 refine wpList_plain hg fun K hK=>?_
 subst hv
 have hr:(Instr.loadAt t (.p g)).run Tryz.prog w= .ok (.agg c) w:=by
  simp only[Instr.loadAt,Instr.sureAddr,Sem.run_bind,Sem.run_pure,Result.andThen];exact run_loadVar_row _ _ t t c (0,0) _ hB hu rfl hi
 unfold Oper.wp execOp;simp only[ho,hp,Sem.run_bind,Sem.run_pure,Result.andThen_ok,hr];exact hK _ _ k
theorem blk_grown{w w':World}{g g':Nat}{t:TypeId}{cs:Array Value}(h:Blk w g t cs)(hg:w.grownBy w' (some g'))(hne:g≠g'):Blk w' g t cs:=(hg.block g h.lt (fun e=>hne (by injection e))).trans h
theorem idx4_0(a0 a1 a2 a3 a4 a5 a6 a7 a8 a9 a10 a11 a12 a13 a14 a15 a16 a17 a18 a19 a20 a21 a22 a23:Value)(w:World):Sem.run Tryz.prog (Instr.index 268 (.agg #[a0,a1,a2,a3,a4,a5,a6,a7,a8,a9,a10,a11,a12,a13,a14,a15,a16,a17,a18,a19,a20,a21,a22,a23]) (.i 0)) w= .ok (.agg #[a0,a1,a2,a3,a4,a5]) w:=by
 have h1:=Tryz.underlying268
 simp[Instr.index,run_underlying h1,go_sem]
theorem idx4_1(a0 a1 a2 a3 a4 a5 a6 a7 a8 a9 a10 a11 a12 a13 a14 a15 a16 a17 a18 a19 a20 a21 a22 a23:Value)(w:World):Sem.run Tryz.prog (Instr.index 268 (.agg #[a0,a1,a2,a3,a4,a5,a6,a7,a8,a9,a10,a11,a12,a13,a14,a15,a16,a17,a18,a19,a20,a21,a22,a23]) (.i 1)) w= .ok (.agg #[a6,a7,a8,a9,a10,a11]) w:=by
 have h1:=Tryz.underlying268
 simp[Instr.index,run_underlying h1,go_sem]
theorem idx4_2(a0 a1 a2 a3 a4 a5 a6 a7 a8 a9 a10 a11 a12 a13 a14 a15 a16 a17 a18 a19 a20 a21 a22 a23:Value)(w:World):Sem.run Tryz.prog (Instr.index 268 (.agg #[a0,a1,a2,a3,a4,a5,a6,a7,a8,a9,a10,a11,a12,a13,a14,a15,a16,a17,a18,a19,a20,a21,a22,a23]) (.i 2)) w= .ok (.agg #[a12,a13,a14,a15,a16,a17]) w:=by
 have h1:=Tryz.underlying268
 simp[Instr.index,run_underlying h1,go_sem]
theorem idx4_3(a0 a1 a2 a3 a4 a5 a6 a7 a8 a9 a10 a11 a12 a13 a14 a15 a16 a17 a18 a19 a20 a21 a22 a23:Value)(w:World):Sem.run Tryz.prog (Instr.index 268 (.agg #[a0,a1,a2,a3,a4,a5,a6,a7,a8,a9,a10,a11,a12,a13,a14,a15,a16,a17,a18,a19,a20,a21,a22,a23]) (.i 3)) w= .ok (.agg #[a18,a19,a20,a21,a22,a23]) w:=by
 have h1:=Tryz.underlying268
 simp[Instr.index,run_underlying h1,go_sem]
def FoR(w:World)(go gr:Nat)(op:D→D→Bool→D×Int)(x y:Iv)(R:Iv)(k:Nat)(iv:Value)(wr:World):Prop:=
  ∃(j:Nat) (lo hi:D) (A B:Option Addr) (n c m d:Nat),iv= .i j∧j≤4∧k=4-j∧Hid (Blk wr go 77 #[.b lo.neg,.l A n c,.i lo.e,.b hi.neg,.l B m d,.i hi.e,.b false])∧Hid (Blk wr gr 77 #[.b false,.sn,.i 0,.b false,.sn,.i 0,.b false])∧Hid (Sl wr A n c (limbs lo.k))∧Hid (Sl wr B m d (limbs hi.k))∧Hid (vld lo∧vld hi)∧Hid (frI op ((prsI x y).drop j) (if j=0 then none else some (lo,hi))=R)∧Hid (Below w.heap.size w wr)
def FourAt(f:Nat)(op:D→D→Bool→D×Int)(p:Int)(up:Bool):Prop:=∀(a b:D) (P Q:Option Addr) (i1 i2 k1 k2:Nat) (w:World),Sl w P i1 i2 (limbs a.k)→Sl w Q k1 k2 (limbs b.k)→vld a→vld b→RB w→Calls Tryz.prog f #[.agg #[.b a.neg,.l P i1 i2,.i a.e],.agg #[.b b.neg,.l Q k1 k2,.i b.e],.i p] w (DyE (op a b up) w)
theorem four_in(mu:Bool)(op:D→D→Bool→D×Int)(p:Int)(hov:∀a b up,vld (op a b up).1)(kd:FourAt (cond mu 203 68) op p false)(ku:FourAt (cond mu 204 70) op p true)(v u:IvN)(w:World)(hv:InI w v)(hu:InI w u)(hT:RB w):
 Calls Tryz.prog 202 #[.agg #[.b v.x.lo.neg,.l v.A v.n v.c,.i v.x.lo.e,.b v.x.hi.neg,.l v.B v.m v.d,.i v.x.hi.e,.b v.x.all],.agg #[.b u.x.lo.neg,.l u.A u.n u.c,.i u.x.lo.e,.b u.x.hi.neg,.l u.B u.m u.d,.i u.x.hi.e,.b u.x.all],.i p,.func (.func (cond mu 203 68)) #[] #[],.func (.func (cond mu 204 70)) #[] #[]] w (IvQ (fourI op v.x u.x) w):=by
 have b2:=hI hov
 cases mu
 all_goals
  dsimp only[cond]at kd ku ⊢
  have KD:=hI kd;have KU:=hI ku;clear kd ku hov;have HV:=hI hv;have HU:=hI hu;have HT:=hI hT;obtain⟨R,hR⟩:=eX (fourI op v.x u.x);have HR:=hI (show frI op ((prsI v.x u.x).drop 0) (if 0=0 then none else some (D0,D0))=R from fr_start.trans hR.symm);rw[←hR];clear hv hu hT hR;have dn:=hI (Below.refl w.heap.size w)
  go_in
  go_upto_region 1 with(fail);generalize i:World.alloc _ _=ww1;obtain⟨dp,b3,b4,ba⟩:=gn3 i;clear i;have dq:=dn.o.t dp;have dr:=b3.o.cell;have ds:=b3.o.frozen;have dt:=b4.o.cell;have du:=b4.o.frozen;have am:(Tryz.prog.info? 268).map (·.size)=some 24:=(by kernel_rfl);refine wp_region_lit ?_
  iterate 22 (refine wpList_plain rfl fun K hK=>?_;go_simp;refine hK _ _ ?_;clear hK K)
  refine wpList_store_new rfl (w0:=ww1) (c:=#[.b false,.sn,.i 0,.b false,.sn,.i 0,.b false,.sn,.i 0,.b false,.sn,.i 0,.b false,.sn,.i 0,.b false,.sn,.i 0,.b false,.sn,.i 0,.b false,.sn,.i 0]) (c':=#[.b v.x.lo.neg,.l v.A v.n v.c,.i v.x.lo.e,.b u.x.lo.neg,.l u.A u.n u.c,.i u.x.lo.e,.b v.x.lo.neg,.l v.A v.n v.c,.i v.x.lo.e,.b u.x.hi.neg,.l u.B u.m u.d,.i u.x.hi.e,.b v.x.hi.neg,.l v.B v.m v.d,.i v.x.hi.e,.b u.x.lo.neg,.l u.A u.n u.c,.i u.x.lo.e,.b v.x.hi.neg,.l v.B v.m v.d,.i v.x.hi.e,.b u.x.hi.neg,.l u.B u.m u.d,.i u.x.hi.e]) rfl rfl rfl rfl rfl am rfl (by simp[Value.oneCell']) ?_;clear am;refine wpList_nil ?_;go_upto_region 2 with(fail);generalize i:World.alloc _ _=ww2;obtain⟨bb,dv⟩:=gn1 i;clear i;have b5:=dq.o.t bb;clear dr ds dt du;go_upto_region 3 with(fail);generalize i:World.alloc _ _=ww3;obtain⟨bc,dw⟩:=gn1 i;clear i;have b6:w.heap.size≤ww2.heap.size:=b5.o.size;have b7:w.heap.size+1+1≠ww2.heap.size:=(by have:=ba.o.lt;have:=ba.o.lt;have:=bb.o.size;omega)
  obtain⟨AR,ad⟩:∃z:Value,z=Value.agg #[.b v.x.lo.neg,.l v.A v.n v.c,.i v.x.lo.e,.b u.x.lo.neg,.l u.A u.n u.c,.i u.x.lo.e,.b v.x.lo.neg,.l v.A v.n v.c,.i v.x.lo.e,.b u.x.hi.neg,.l u.B u.m u.d,.i u.x.hi.e,.b v.x.hi.neg,.l v.B v.m v.d,.i v.x.hi.e,.b u.x.lo.neg,.l u.A u.n u.c,.i u.x.lo.e,.b v.x.hi.neg,.l v.B v.m v.d,.i v.x.hi.e,.b u.x.hi.neg,.l u.B u.m u.d,.i u.x.hi.e]:=⟨_,rfl⟩
  have am:(Tryz.prog.info? 268).map (·.size)=some 24:=(by kernel_rfl);refine wp_region_lit ?_;refine wpList_load_row rfl (v:=AR) ad (g:=ww1.heap.size) (p:= .tmp 11) rfl rfl (dv.o.belowW bc.o) Tryz.underlying268 am ?_;clear am
  try simp only[Act.put,Lj,Lk,Lq]
  have b8:∀w':World,Sem.run Tryz.prog (Instr.index 268 AR (.i 0)) w'= .ok (.agg #[.b v.x.lo.neg,.l v.A v.n v.c,.i v.x.lo.e,.b u.x.lo.neg,.l u.A u.n u.c,.i u.x.lo.e]) w':=(by rw[ad];exact fun w'=>idx4_0 _ _ _ _ _ _ _ _ _ _ _ _ _ _ _ _ _ _ _ _ _ _ _ _ w');have ca:∀w':World,Sem.run Tryz.prog (Instr.index 268 AR (.i 1)) w'= .ok (.agg #[.b v.x.lo.neg,.l v.A v.n v.c,.i v.x.lo.e,.b u.x.hi.neg,.l u.B u.m u.d,.i u.x.hi.e]) w':=(by rw[ad];exact fun w'=>idx4_1 _ _ _ _ _ _ _ _ _ _ _ _ _ _ _ _ _ _ _ _ _ _ _ _ w');have cb:∀w':World,Sem.run Tryz.prog (Instr.index 268 AR (.i 2)) w'= .ok (.agg #[.b v.x.hi.neg,.l v.B v.m v.d,.i v.x.hi.e,.b u.x.lo.neg,.l u.A u.n u.c,.i u.x.lo.e]) w':=(by rw[ad];exact fun w'=>idx4_2 _ _ _ _ _ _ _ _ _ _ _ _ _ _ _ _ _ _ _ _ _ _ _ _ w');have cd:∀w':World,Sem.run Tryz.prog (Instr.index 268 AR (.i 3)) w'= .ok (.agg #[.b v.x.hi.neg,.l v.B v.m v.d,.i v.x.hi.e,.b u.x.hi.neg,.l u.B u.m u.d,.i u.x.hi.e]) w':=(by rw[ad];exact fun w'=>idx4_3 _ _ _ _ _ _ _ _ _ _ _ _ _ _ _ _ _ _ _ _ _ _ _ _ w');have dx:=hI b8;have dy:=hI ca;have dz:=hI cb;have d0:=hI cd;clear ad b8 ca cb cd
  go_wp2_with fail
  obtain⟨G0,q⟩:∃z:Value,z=Value.agg #[.b v.x.lo.neg,.l v.A v.n v.c,.i v.x.lo.e,.b u.x.lo.neg,.l u.A u.n u.c,.i u.x.lo.e,.b v.x.lo.neg,.l v.A v.n v.c,.i v.x.lo.e,.b u.x.hi.neg,.l u.B u.m u.d,.i u.x.hi.e,.b v.x.hi.neg,.l v.B v.m v.d,.i v.x.hi.e,.b u.x.lo.neg,.l u.A u.n u.c,.i u.x.lo.e,.b v.x.hi.neg,.l v.B v.m v.d,.i v.x.hi.e,.b u.x.hi.neg,.l u.B u.m u.d,.i u.x.hi.e]:=⟨_,rfl⟩
  rw[←q];clear q
  obtain⟨G1,q⟩:∃z:Value,z=Value.agg #[.b v.x.lo.neg,.l v.A v.n v.c,.i v.x.lo.e,.b v.x.hi.neg,.l v.B v.m v.d,.i v.x.hi.e,.b v.x.all]:=⟨_,rfl⟩
  rw[←q];clear q
  obtain⟨G2,q⟩:∃z:Value,z=Value.agg #[.b u.x.lo.neg,.l u.A u.n u.c,.i u.x.lo.e,.b u.x.hi.neg,.l u.B u.m u.d,.i u.x.hi.e,.b u.x.all]:=⟨_,rfl⟩
  rw[←q];clear q
  obtain⟨G3,q⟩:∃z:Value,z=Value.agg #[.b v.x.lo.neg,.l v.A v.n v.c,.i v.x.lo.e,.b u.x.lo.neg,.l u.A u.n u.c,.i u.x.lo.e]:=⟨_,rfl⟩
  rw[←q];clear q
  obtain⟨G4,q⟩:∃z:Value,z=Value.agg #[.b v.x.lo.neg,.l v.A v.n v.c,.i v.x.lo.e,.b u.x.hi.neg,.l u.B u.m u.d,.i u.x.hi.e]:=⟨_,rfl⟩
  rw[←q];clear q
  obtain⟨G5,q⟩:∃z:Value,z=Value.agg #[.b v.x.hi.neg,.l v.B v.m v.d,.i v.x.hi.e,.b u.x.lo.neg,.l u.A u.n u.c,.i u.x.lo.e]:=⟨_,rfl⟩
  rw[←q];clear q
  obtain⟨G6,q⟩:∃z:Value,z=Value.agg #[.b v.x.hi.neg,.l v.B v.m v.d,.i v.x.hi.e,.b u.x.hi.neg,.l u.B u.m u.d,.i u.x.hi.e]:=⟨_,rfl⟩
  rw[←q];clear q
  obtain⟨G7,q⟩:∃z:Value,z=Value.agg #[.b v.x.lo.neg,.l v.A v.n v.c,.i v.x.lo.e]:=⟨_,rfl⟩
  rw[←q];clear q
  obtain⟨G8,q⟩:∃z:Value,z=Value.agg #[.b v.x.hi.neg,.l v.B v.m v.d,.i v.x.hi.e]:=⟨_,rfl⟩
  rw[←q];clear q
  obtain⟨L,q⟩:∃z:Value,z=Value.agg #[.b u.x.lo.neg,.l u.A u.n u.c,.i u.x.lo.e]:=⟨_,rfl⟩
  rw[←q];clear q
  obtain⟨ew,q⟩:∃z:Value,z=Value.agg #[.b u.x.hi.neg,.l u.B u.m u.d,.i u.x.hi.e]:=⟨_,rfl⟩
  rw[←q];clear q
  go_loopg [41] 4 (FoR w (ww2.heap.size) (w.heap.size+1+1) op v.x u.x R)
  case atStart=>exact⟨0,D0,D0,none,none,0,0,0,0,rfl,by omega,by omega,dw,(hI ((ba.o.belowW bb.o).belowW bc.o)),hI (by show Sl _ none 0 0 (limbs 0);rw[limbs_zero];exact Sl.none_ _),hI (by show Sl _ none 0 0 (limbs 0);rw[limbs_zero];exact Sl.none_ _),hI ⟨vld_zero,vld_zero⟩,HR,(b5.o.t bc)⟩
  obtain⟨j,lo,hi,A,B,n,c,m,d,rfl,hj,rfl,HO,ao,ce,cf,ae,ap,HL⟩:=hrel;have s:=HV.o.b9 HL;have ay:=HU.o.b9 HL
  by_cases hj4:j=4
  case pos=>
   subst hj4;have S:=HO.o.cell;have T:=HO.o.frozen;have r:=ao.o.cell;have C:=ao.o.frozen
   go_wp2;rw[store7_put ao.o];obtain⟨s,M,E⟩:=putI (v:=⟨⟨lo,hi,false⟩,A,n,c,B,m,d⟩) ⟨ce.o,cf.o,⟨ae.o.1,ae.o.2,fun h=>by cases h⟩⟩ ao.o noU7 HL.o (by omega);obtain⟨w9,i⟩:=eX (putB wr (w.heap.size+1+1) 77 #[.b lo.neg,.l A n c,.i lo.e,.b hi.neg,.l B m d,.i hi.e,.b false]);rw[show(⟨⟨lo,hi,false⟩,A,n,c,B,m,d⟩:IvN).cells=#[.b lo.neg,.l A n c,.i lo.e,.b hi.neg,.l B m d,.i hi.e,.b false]from rfl,←i]at s M E;rw[←i];clear i;clear S T r C;have r:=E.o.cell;have C:=E.o.frozen;refine bodyPost_ret (v:= .agg #[.b lo.neg,.l A n c,.i lo.e,.b hi.neg,.l B m d,.i hi.e,.b false]) (by simp[results,Tryz.results202,go_sem,r]) rfl ?_;exact⟨⟨⟨lo,hi,false⟩,A,n,c,B,m,d⟩,rfl,(hI (fr_end ap.o)),s,M⟩
  have ey:decide ((j:Int)<4)=true:=dT;go_upto_region 5 with(fail)
  go_cut [13,14] (fun s13 s14 wx=>∃(a b:D) (gc:Nat) (P Q:Option Addr) (i1 i2 k1 k2:Nat),s13= .i j∧s14= .p gc∧Hid (Blk wx gc 267 #[.b a.neg,.l P i1 i2,.i a.e,.b b.neg,.l Q k1 k2,.i b.e])∧Hid (Sl wx P i1 i2 (limbs a.k))∧Hid (Sl wx Q k1 k2 (limbs b.k))∧Hid (vld a∧vld b)∧Hid ((prsI v.x u.x)[j]? =some (a,b))∧Hid (Below wr.heap.size wr wx))
  case first=>
   obtain hh | hh | hh | hh:j=0∨j=1∨j=2∨j=3:=by omega
   ·
    subst hh;have bf:=dx.o
    go_wp2;generalize i:World.alloc _ _=ww4;obtain⟨bg,d3⟩:=gn1 i;clear i;have cg:=s.o.b9 bg;have ch:=ay.o.b9 bg
    go_meet
    exact⟨v.x.lo,u.x.lo,wr.heap.size,v.A,u.A,v.n,v.c,u.n,u.c,rfl,rfl,d3,hI cg.o.l,hI ch.o.l,hI ⟨cg.o.o.l,ch.o.o.l⟩,hI rfl,bg⟩
   ·
    subst hh;have bf:=dy.o
    go_wp2;generalize i:World.alloc _ _=ww5;obtain⟨bh,d4⟩:=gn1 i;clear i;have ci:=s.o.b9 bh;have cj:=ay.o.b9 bh
    go_meet
    exact⟨v.x.lo,u.x.hi,wr.heap.size,v.A,u.B,v.n,v.c,u.m,u.d,rfl,rfl,d4,hI ci.o.l,hI cj.o.h,hI ⟨ci.o.o.l,cj.o.o.h⟩,hI rfl,bh⟩
   ·
    subst hh;have bf:=dz.o
    go_wp2;generalize i:World.alloc _ _=ww6;obtain⟨bi,d5⟩:=gn1 i;clear i;have ck:=s.o.b9 bi;have cl:=ay.o.b9 bi
    go_meet
    exact⟨v.x.hi,u.x.lo,wr.heap.size,v.B,u.A,v.m,v.d,u.n,u.c,rfl,rfl,d5,hI ck.o.h,hI cl.o.l,hI ⟨ck.o.o.h,cl.o.o.l⟩,hI rfl,bi⟩
   subst hh;have bf:=d0.o
   go_wp2;generalize i:World.alloc _ _=ww7;obtain⟨bj,d6⟩:=gn1 i;clear i;have cm:=s.o.b9 bj;have cn:=ay.o.b9 bj
   go_meet
   exact⟨v.x.hi,u.x.hi,wr.heap.size,v.B,u.B,v.m,v.d,u.m,u.d,rfl,rfl,d6,hI cm.o.h,hI cn.o.h,hI ⟨cm.o.o.h,cn.o.o.h⟩,hI rfl,bj⟩
  obtain⟨a,b,gc,P,Q,i1,i2,k1,k2,rfl,rfl,HC,bk,bl,az,HG,U⟩:=hcut;obtain⟨wy,i⟩:=eX (wc);rw[←i]at HC bk bl U ⊢;clear i;have d8:=HL.o.t U;have cs:=hI ((HT.o.belowW HL.o).belowW U.o);obtain⟨x,hx⟩:=eX (op a b false);obtain⟨y,hy⟩:=eX (op a b true);have VX:=hI (show vld x.1 by rw[hx];exact b2.o _ _ _);have VY:=hI (show vld y.1 by rw[hy];exact b2.o _ _ _);have a0:=hI hx.symm;have a1:=hI hy.symm;clear hx hy;have cc:=HC.o.cell;have fc:=HC.o.frozen;go_wp2_with fail;refine(KD.o a b P Q i1 i2 k1 k2 wy bk.o bl.o az.o.1 az.o.2 cs.o).mono ?_;rw[a0.o];rintro e ww9 ⟨X,x1,x2,rfl,d9,H⟩;have ea:=d8.o.t H;have cv:=hI ((HO.o.belowW U.o).belowW H.o);clear cc fc;have ez:ww9.heap.size≠ww2.heap.size:=(by have:=cv.o.lt;omega);go_upto_region 7 with(fail);generalize i:World.alloc _ _=ww10;obtain⟨F,eb⟩:=gn1 i;clear i;have ec:=ea.o.t F;have cc:=((HC.o.belowW H.o).belowW F.o).cell;have fc:=((HC.o.belowW H.o).belowW F.o).frozen;go_wp2_with fail;refine(KU.o a b P Q i1 i2 k1 k2 ww10 ((bk.o.belowW H.o).belowW F.o) ((bl.o.belowW H.o).belowW F.o) az.o.1 az.o.2 ((cs.o.belowW H.o).belowW F.o)).mono ?_;rw[a1.o];rintro e ww11 ⟨Y,y1,y2,rfl,ed,V⟩;have ee:=ec.o.t V;have cw:=hI ((cv.o.belowW F.o).belowW V.o);clear cc fc;have ef:ww11.heap.size≠ww2.heap.size:=(by have:=cw.o.lt;omega);go_upto_region 8 with(fail);generalize i:World.alloc _ _=ww12;obtain⟨N,eg⟩:=gn1 i;clear i;have af:=ee.o.t N;have cx:=hI (((((ce.o.belowW U.o).belowW H.o).belowW F.o).belowW V.o).belowW N.o);have bv:=cw.o.b9 N;have W:=hI (((((ao.o.belowW U.o).belowW H.o).belowW F.o).belowW V.o).belowW N.o);have cy:=hI (((d9.o.belowW F.o).belowW V.o).belowW N.o);have a2:=hI ((eb.o.belowW V.o).belowW N.o)
  by_cases e1:x.2=0
  case neg=>
   have d1:(x.2 !=0)=true:=(by simp[e1]);have HX:=hI (fr_err ap.o HG.o (fun h=>e1 (by rw[←a0.o];exact h.1)));clear e1;have r:=W.o.cell;have C:=W.o.frozen;go_wp2_with fail;refine(whole_any ww12).mono ?_;rintro e ww13 ⟨rfl,cz⟩;have a3:=W.o.b9 cz;clear r C;have r:=a3.o.cell;have C:=a3.o.frozen;go_wp2;rw[store7_put a3.o];obtain⟨s,M,E⟩:=putI (v:=wh9) (wh9_in _) a3.o noU7 (af.o.trans (cz.o.mono af.o.size)) (by omega);obtain⟨w9,i⟩:=eX (putB ww13 (w.heap.size+1+1) 77 #[.b false,.sn,.i 0,.b false,.sn,.i 0,.b true]);rw[show(wh9:IvN).cells=#[.b false,.sn,.i 0,.b false,.sn,.i 0,.b true]from rfl,←i]at s M E;rw[←i];clear i;clear r C;have r:=E.o.cell;have C:=E.o.frozen;refine bodyPost_ret (v:= .agg #[.b false,.sn,.i 0,.b false,.sn,.i 0,.b true]) (by simp[results,Tryz.results202,go_sem,r]) rfl ?_;exact⟨wh9,rfl,HX,s,M⟩
  have d1:(x.2 !=0)=false:=by simp[e1]
  by_cases e2:y.2=0
  case neg=>
   have d2:(y.2 !=0)=true:=(by simp[e2]);have HX:=hI (fr_err ap.o HG.o (fun h=>e2 (by rw[←a1.o];exact h.2)));clear e1 e2;have r:=W.o.cell;have C:=W.o.frozen;go_wp2_with fail;refine(whole_any ww12).mono ?_;rintro e ww14 ⟨rfl,c0⟩;have a4:=W.o.b9 c0;clear r C;have r:=a4.o.cell;have C:=a4.o.frozen;go_wp2;rw[store7_put a4.o];obtain⟨s,M,E⟩:=putI (v:=wh9) (wh9_in _) a4.o noU7 (af.o.trans (c0.o.mono af.o.size)) (by omega);obtain⟨w9,i⟩:=eX (putB ww14 (w.heap.size+1+1) 77 #[.b false,.sn,.i 0,.b false,.sn,.i 0,.b true]);rw[show(wh9:IvN).cells=#[.b false,.sn,.i 0,.b false,.sn,.i 0,.b true]from rfl,←i]at s M E;rw[←i];clear i;clear r C;have r:=E.o.cell;have C:=E.o.frozen;refine bodyPost_ret (v:= .agg #[.b false,.sn,.i 0,.b false,.sn,.i 0,.b true]) (by simp[results,Tryz.results202,go_sem,r]) rfl ?_;exact⟨wh9,rfl,HX,s,M⟩
  have d2:(y.2 !=0)=false:=(by simp[e2]);have bx:=hI (fr_ok ap.o HG.o (by rw[a0.o];exact e1) (by rw[a1.o];exact e2));simp only[a0.o,a1.o]at bx;clear ap e1 e2;go_upto_region 10 with(fail)
  obtain⟨a5,ag⟩:∃z:Bool,z=decide (j=0∨cmpD x.1 lo<0):=⟨_,rfl⟩
  go_cut [80] (fun sb wx=>sb= .b a5∧Hid (Below ww12.heap.size ww12 wx))
  case first=>
   by_cases hj0:j=0
   ·
    have bz:((j:Int)==0)=true:=(by simp[hj0]);have Z:a5=true:=(by rw[ag];exact decide_eq_true (Or.inl hj0));clear ag;subst Z;clear hj0;go_wp2
    go_meet
    exact⟨rfl,hI (Below.refl _ _)⟩
   have bz:((j:Int)==0)=false:=(by rw[beq_eq_false_iff_ne];omega);obtain⟨z,hz⟩:=eX (cmpD x.1 lo);have HZ:=hI hz.symm;have Z:decide (z<0)=a5:=(by rw[ag,decide_eq_decide,hz];exact⟨Or.inr,fun h=>h.resolve_left hj0⟩);clear ag hz hj0;have cp:=a2.o.cell;have fp:=a2.o.frozen;have S:=bv.o.cell;have T:=bv.o.frozen;go_wp2_with fail;refine(dcmp_any x.1 lo X A x1 x2 n c ww12 cy.o cx.o VX.o ae.o.1).mono ?_;rw[HZ.o];rintro e ww15 ⟨rfl,ej⟩;clear cp fp S T;go_wp2_with fail
   try rw[Z]
   go_meet
   exact⟨rfl,ej⟩
  obtain⟨rfl,G⟩:=hcut;obtain⟨c3,i⟩:=eX (wc);rw[←i]at G ⊢;clear i;have c4:=hI ag;clear ag;have O:=bv.o.b9 G
  go_upto_if 80 with(fail)
  go_cut [] (fun wx=>∃(I:D) (A9:Option Addr) (n9 c9:Nat),Hid (Blk wx (ww2.heap.size) 77 #[.b I.neg,.l A9 n9 c9,.i I.e,.b hi.neg,.l B m d,.i hi.e,.b false])∧Hid (Sl wx A9 n9 c9 (limbs I.k))∧Hid (loS j x.1 lo=I)∧Hid (vld I)∧Hid (c3.grownBy wx (some (ww2.heap.size))))
  case first=>
   cases a5 with
   | true=>
    have ab:=hI (show loS j x.1 lo=x.1 by unfold loS;rw[if_pos (of_decide_eq_true c4.o.symm)]);have cp:=(a2.o.belowW G.o).cell;have fp:=(a2.o.belowW G.o).frozen;have S:=O.o.cell;have T:=O.o.frozen;go_wp2_with fail;rw[store3_lo O.o];have L:=putB_grown c3 (ww2.heap.size) 77 #[.b x.1.neg,.l X x1 x2,.i x.1.e,.b hi.neg,.l B m d,.i hi.e,.b false]
    go_meet
    exact⟨x.1,X,x1,x2,hI (O.o.put _),hI ((cy.o.belowW G.o).far O.o noU7 L),ab,VX,hI L⟩
   | false=>
    have ab:=hI (show loS j x.1 lo=lo by unfold loS;rw[if_neg (of_decide_eq_false c4.o.symm)]);go_wp2
    go_meet
    exact⟨lo,A,n,c,O,(cx.o.b9 G),ab,hI ae.o.1,hI (grown_below _ (Below.refl _ _))⟩
  obtain⟨I,A9,n9,c9,a6,c5,c6,c7,ak⟩:=hcut;obtain⟨b1,i⟩:=eX (wc);rw[←i]at a6 c5 ak ⊢;clear i;have ek:=hI (below_grow9 (af.o.trans (G.o.mono af.o.size)) ak.o b6);have c8:=hI (((((((cf.o.belowW U.o).belowW H.o).belowW F.o).belowW V.o).belowW N.o).belowW G.o).far O.o noU7 ak.o);have da:=hI (((ed.o.belowW N.o).belowW G.o).far O.o noU7 ak.o);have a7:=hI (blk_grown (eg.o.belowW G.o) ak.o ef);go_upto_region 12 with(fail)
  obtain⟨a8,al⟩:∃z:Bool,z=decide (j=0∨0<cmpD y.1 hi):=⟨_,rfl⟩
  go_cut [91] (fun sb wx=>sb= .b a8∧Hid (Below b1.heap.size b1 wx))
  case first=>
   by_cases hj0:j=0
   ·
    have bz:((j:Int)==0)=true:=(by simp[hj0]);have Z:a8=true:=(by rw[al];exact decide_eq_true (Or.inl hj0));clear al;subst Z;clear hj0;go_wp2
    go_meet
    exact⟨rfl,hI (Below.refl _ _)⟩
   have bz:((j:Int)==0)=false:=(by rw[beq_eq_false_iff_ne];omega);obtain⟨z,hz⟩:=eX (cmpD y.1 hi);have HZ:=hI hz.symm;have Z:decide (0<z)=a8:=(by rw[al,decide_eq_decide,hz];exact⟨Or.inr,fun h=>h.resolve_left hj0⟩);clear al hz hj0;have cq:=a7.o.cell;have fq:=a7.o.frozen;have S:=a6.o.cell;have T:=a6.o.frozen;go_wp2_with fail;refine(dcmp_any y.1 hi Y B y1 y2 m d b1 da.o c8.o VY.o ae.o.2).mono ?_;rw[HZ.o];rintro e ww19 ⟨rfl,el⟩;clear cq fq S T;go_wp2_with fail
   try rw[Z]
   go_meet
   exact⟨rfl,el⟩
  obtain⟨rfl,J⟩:=hcut;obtain⟨em,i⟩:=eX (wc);rw[←i]at J ⊢;clear i;have dd:=hI al;clear al;have de:=hI ((blk_grown (W.o.belowW G.o) ak.o b7).belowW J.o);have ac:=a6.o.b9 J;have df:=c5.o.b9 J;have dg:=ek.o.t J
  cases a8 with
  | true=>
   have ab:=hI (show hiS j y.1 hi=y.1 by unfold hiS;rw[if_pos (of_decide_eq_true dd.o.symm)]);have cq:=(a7.o.belowW J.o).cell;have fq:=(a7.o.belowW J.o).frozen;have S:=ac.o.cell;have T:=ac.o.frozen;go_wp2_with fail;rw[store3_hi ac.o];have L:=putB_grown em (ww2.heap.size) 77 #[.b I.neg,.l A9 n9 c9,.i I.e,.b y.1.neg,.l Y y1 y2,.i y.1.e,.b false]
   go_roundg (4-(j+1))
   case measure=>omega
   case rel=>exact⟨j+1,I,y.1,A9,Y,n9,c9,y1,y2,by go_num,by omega,rfl,hI (ac.o.put _),hI (blk_grown de.o L b7),hI (df.o.far ac.o noU7 L),hI ((da.o.belowW J.o).far ac.o noU7 L),hI ⟨c7.o,VY.o⟩,hI (by rw[←c6.o,←ab.o];exact bx.o),hI (below_grow9 dg.o L b6)⟩
  | false=>
   have ab:=hI (show hiS j y.1 hi=hi by unfold hiS;rw[if_neg (of_decide_eq_false dd.o.symm)]);go_wp2
   go_roundg (4-(j+1))
   case measure=>omega
   case rel=>exact⟨j+1,I,hi,A9,B,n9,c9,m,d,by go_num,by omega,rfl,ac,de,df,(c8.o.b9 J),hI ⟨c7.o,ae.o.2⟩,hI (by rw[←c6.o,←ab.o];exact bx.o),dg⟩
theorem fourM_in(v u:IvN)(p:Int)(w:World)(hv:InI w v)(hu:InI w u)(hT:RB w):
 Calls Tryz.prog 202 #[.agg #[.b v.x.lo.neg,.l v.A v.n v.c,.i v.x.lo.e,.b v.x.hi.neg,.l v.B v.m v.d,.i v.x.hi.e,.b v.x.all],.agg #[.b u.x.lo.neg,.l u.A u.n u.c,.i u.x.lo.e,.b u.x.hi.neg,.l u.B u.m u.d,.i u.x.hi.e,.b u.x.all],.i p,.func (.func 203) #[] #[],.func (.func 204) #[] #[]] w (IvQ (fourI (fun a b up=>mulE a b p up) v.x u.x) w):=
 four_in true (fun a b up=>mulE a b p up) p (fun _ _ _=>mulE_vld _ _ _ _) (fun a b P Q i1 i2 k1 k2 w=>MulDown_any a b P Q i1 i2 k1 k2 p w) (fun a b P Q i1 i2 k1 k2 w=>MulUp_any a b P Q i1 i2 k1 k2 p w) v u w hv hu hT
theorem fourD_in(v u:IvN)(p:Int)(w:World)(hv:InI w v)(hu:InI w u)(hT:RB w):
 Calls Tryz.prog 202 #[.agg #[.b v.x.lo.neg,.l v.A v.n v.c,.i v.x.lo.e,.b v.x.hi.neg,.l v.B v.m v.d,.i v.x.hi.e,.b v.x.all],.agg #[.b u.x.lo.neg,.l u.A u.n u.c,.i u.x.lo.e,.b u.x.hi.neg,.l u.B u.m u.d,.i u.x.hi.e,.b u.x.all],.i p,.func (.func 68) #[] #[],.func (.func 70) #[] #[]] w (IvQ (fourI (fun a b up=>divE a b p up) v.x u.x) w):=
 four_in false (fun a b up=>divE a b p up) p (fun _ _ _=>divE_vld _ _ _ _) (fun a b P Q i1 i2 k1 k2 w=>DivDown_any a b P Q i1 i2 k1 k2 p w) (fun a b P Q i1 i2 k1 k2 w=>DivUp_any a b P Q i1 i2 k1 k2 p w) v u w hv hu hT
theorem imul_in(v u:IvN)(p:Int)(w:World)(hv:InI w v)(hu:InI w u)(hT:RB w):
 Calls Tryz.prog 157 #[.agg #[.b v.x.lo.neg,.l v.A v.n v.c,.i v.x.lo.e,.b v.x.hi.neg,.l v.B v.m v.d,.i v.x.hi.e,.b v.x.all],.agg #[.b u.x.lo.neg,.l u.A u.n u.c,.i u.x.lo.e,.b u.x.hi.neg,.l u.B u.m u.d,.i u.x.hi.e,.b u.x.all],.i p] w (IvQ (mulI v.x u.x p) w):=by
 have HV:=hI hv;have HU:=hI hu;have HT:=hI hT;obtain⟨P,Q⟩:=eX (mulI v.x u.x p);have R:=hI Q;rw[←Q];clear hv hu hT Q;have ad:=hI (Below.refl w.heap.size w)
 go_in
 go_upto_region 1 with(fail);generalize g:World.alloc _ _=ww1;obtain⟨H,I,J,ae⟩:=gn3 g;clear g;have af:=ad.o.t H;have C:=I.o.cell;have D:=I.o.frozen;have E:=J.o.cell;have F:=J.o.frozen;go_wp2_with fail;generalize g:World.alloc _ _=ww2;obtain⟨l,ag⟩:=gn1 g;clear g;have ah:=af.o.t l;have T:=hI ((HV.o.belowW H.o).belowW l.o);have U:=hI ((HU.o.belowW H.o).belowW l.o);clear C D E F;obtain⟨kb,V⟩:=eX ((v.x.kn&&u.x.kn));have L:=hI V.symm;clear V;refine(known2_in (ww1.heap.size) v u ww2 ag.o T.o U.o).mono ?_;rw[L.o];rintro e ww3 ⟨rfl,o⟩;have z:=ah.o.t o;have y:=hI ((ae.o.belowW l.o).belowW o.o);have C:=((I.o.belowW l.o).belowW o.o).cell;have D:=((I.o.belowW l.o).belowW o.o).frozen;have E:=((J.o.belowW l.o).belowW o.o).cell;have F:=((J.o.belowW l.o).belowW o.o).frozen
 cases kb with
 | false=>
  have G:=hI (show whI=P by rw[R.o];unfold mulI;rw[L.o];rfl);have i:=y.o.cell;have j:=y.o.frozen;go_wp2_with fail;refine(whole_any ww3).mono ?_;rintro e ww4 ⟨rfl,W⟩;have M:=y.o.b9 W;clear C D E F i j;have i:=M.o.cell;have j:=M.o.frozen;go_wp2;rw[store7_put M.o];obtain⟨r,s,k⟩:=putI (v:=wh9) (wh9_in _) M.o noU7 (z.o.trans (W.o.mono z.o.size)) (by omega);obtain⟨w9,g⟩:=eX (putB ww4 (w.heap.size+1+1) 77 #[.b false,.sn,.i 0,.b false,.sn,.i 0,.b true]);rw[show(wh9:IvN).cells=#[.b false,.sn,.i 0,.b false,.sn,.i 0,.b true]from rfl,←g]at r s k;rw[←g];clear g;clear i j;have i:=k.o.cell;have j:=k.o.frozen;refine bodyPost_ret (v:= .agg #[.b false,.sn,.i 0,.b false,.sn,.i 0,.b true]) (by simp[results,Tryz.results157,go_sem,i]) rfl ?_
  exact⟨wh9,rfl,G,r,s⟩
 | true=>
  obtain⟨kp,X⟩:=eX (precB p);have S:=hI X.symm;clear X;go_wp2_with fail;refine(permitted_any p ww3).mono ?_;rw[S.o];rintro e w9 ⟨rfl,rfl⟩
  cases kp with
  | false=>
   have G:=hI (show whI=P by rw[R.o];unfold mulI;rw[L.o,S.o];rfl);have i:=y.o.cell;have j:=y.o.frozen;go_wp2_with fail;refine(whole_any ww3).mono ?_;rintro e ww5 ⟨rfl,Y⟩;have N:=y.o.b9 Y;clear C D E F i j;have i:=N.o.cell;have j:=N.o.frozen;go_wp2;rw[store7_put N.o];obtain⟨r,s,k⟩:=putI (v:=wh9) (wh9_in _) N.o noU7 (z.o.trans (Y.o.mono z.o.size)) (by omega);obtain⟨w9,g⟩:=eX (putB ww5 (w.heap.size+1+1) 77 #[.b false,.sn,.i 0,.b false,.sn,.i 0,.b true]);rw[show(wh9:IvN).cells=#[.b false,.sn,.i 0,.b false,.sn,.i 0,.b true]from rfl,←g]at r s k;rw[←g];clear g;clear i j;have i:=k.o.cell;have j:=k.o.frozen;refine bodyPost_ret (v:= .agg #[.b false,.sn,.i 0,.b false,.sn,.i 0,.b true]) (by simp[results,Tryz.results157,go_sem,i]) rfl ?_
   exact⟨wh9,rfl,G,r,s⟩
  | true=>
   have G:=hI (show fourI (fun a b up=>mulE a b p up) v.x u.x=P by rw[R.o];unfold mulI;rw[L.o,S.o];rfl);go_wp2_with fail;refine(fourM_in v u p ww3 (T.o.belowW o.o) (U.o.belowW o.o) (((HT.o.belowW H.o).belowW l.o).belowW o.o)).mono ?_;rw[G.o];rintro e ww6 ⟨q,rfl,HQ,al,Z⟩;have O:=y.o.b9 Z;clear C D E F;have i:=O.o.cell;have j:=O.o.frozen;go_wp2;rw[store7_put O.o];obtain⟨r,s,k⟩:=putI (v:=q) al.o O.o noU7 (z.o.trans (Z.o.mono z.o.size)) (by omega);obtain⟨w9,g⟩:=eX (putB ww6 (w.heap.size+1+1) 77 #[.b q.x.lo.neg,.l q.A q.n q.c,.i q.x.lo.e,.b q.x.hi.neg,.l q.B q.m q.d,.i q.x.hi.e,.b q.x.all]);rw[show(q:IvN).cells=#[.b q.x.lo.neg,.l q.A q.n q.c,.i q.x.lo.e,.b q.x.hi.neg,.l q.B q.m q.d,.i q.x.hi.e,.b q.x.all]from rfl,←g]at r s k;rw[←g];clear g;clear i j;have i:=k.o.cell;have j:=k.o.frozen;refine bodyPost_ret (v:= .agg #[.b q.x.lo.neg,.l q.A q.n q.c,.i q.x.lo.e,.b q.x.hi.neg,.l q.B q.m q.d,.i q.x.hi.e,.b q.x.all]) (by simp[results,Tryz.results157,go_sem,i]) rfl ?_;exact⟨q,rfl,HQ,r,s⟩
theorem idiv_in(v u:IvN)(p:Int)(w:World)(hv:InI w v)(hu:InI w u)(hT:RB w):
 Calls Tryz.prog 158 #[.agg #[.b v.x.lo.neg,.l v.A v.n v.c,.i v.x.lo.e,.b v.x.hi.neg,.l v.B v.m v.d,.i v.x.hi.e,.b v.x.all],.agg #[.b u.x.lo.neg,.l u.A u.n u.c,.i u.x.lo.e,.b u.x.hi.neg,.l u.B u.m u.d,.i u.x.hi.e,.b u.x.all],.i p] w (IvQ (divI v.x u.x p) w):=by
 have HV:=hI hv;have HU:=hI hu;have HT:=hI hT;obtain⟨J,W⟩:=eX (divI v.x u.x p);have L:=hI W;rw[←W];clear hv hu hT W;have ao:=hI (Below.refl w.heap.size w)
 go_in
 go_upto_region 1 with(fail);generalize g:World.alloc _ _=ww1;obtain⟨M,X,Y,ap⟩:=gn3 g;clear g;have aq:=ao.o.t M;have s:=X.o.cell;have y:=X.o.frozen;have z:=Y.o.cell;have C:=Y.o.frozen;go_wp2_with fail;generalize g:World.alloc _ _=ww2;obtain⟨D,ar⟩:=gn1 g;clear g;have au:=aq.o.t D;have ab:=hI ((HV.o.belowW M.o).belowW D.o);have ac:=hI ((HU.o.belowW M.o).belowW D.o);clear s y z C;obtain⟨kb,ad⟩:=eX ((v.x.kn&&u.x.kn));have H:=hI ad.symm;clear ad;refine(known2_in (ww1.heap.size) v u ww2 ar.o ab.o ac.o).mono ?_;rw[H.o];rintro e ww3 ⟨rfl,E⟩;have I:=au.o.t E;have ae:=ac.o.b9 E;have N:=hI ((X.o.belowW D.o).belowW E.o);have O:=hI ((Y.o.belowW D.o).belowW E.o);have F:=hI ((ap.o.belowW D.o).belowW E.o);have s:=N.o.cell;have y:=N.o.frozen;have z:=O.o.cell;have C:=O.o.frozen
 cases kb with
 | false=>
  have G:=hI (show whI=J by rw[L.o];unfold divI;rw[H.o];rfl);have i:=F.o.cell;have j:=F.o.frozen;go_wp2_with fail;refine(whole_any ww3).mono ?_;rintro e ww4 ⟨rfl,af⟩;have P:=F.o.b9 af;clear s y z C i j;have i:=P.o.cell;have j:=P.o.frozen;go_wp2;rw[store7_put P.o];obtain⟨l,o,k⟩:=putI (v:=wh9) (wh9_in _) P.o noU7 (I.o.trans (af.o.mono I.o.size)) (by omega);obtain⟨w9,g⟩:=eX (putB ww4 (w.heap.size+1+1) 77 #[.b false,.sn,.i 0,.b false,.sn,.i 0,.b true]);rw[show(wh9:IvN).cells=#[.b false,.sn,.i 0,.b false,.sn,.i 0,.b true]from rfl,←g]at l o k;rw[←g];clear g;clear i j;have i:=k.o.cell;have j:=k.o.frozen;refine bodyPost_ret (v:= .agg #[.b false,.sn,.i 0,.b false,.sn,.i 0,.b true]) (by simp[results,Tryz.results158,go_sem,i]) rfl ?_
  exact⟨wh9,rfl,G,l,o⟩
 | true=>
  obtain⟨kp,ag⟩:=eX (precB p);have Q:=hI ag.symm;clear ag;go_wp2_with fail;refine(permitted_any p ww3).mono ?_;rw[Q.o];rintro e w9 ⟨rfl,rfl⟩
  cases kp with
  | false=>
   have G:=hI (show whI=J by rw[L.o];unfold divI;rw[H.o,Q.o];rfl);have i:=F.o.cell;have j:=F.o.frozen;go_wp2_with fail;refine(whole_any ww3).mono ?_;rintro e ww5 ⟨rfl,ah⟩;have R:=F.o.b9 ah;clear s y z C i j;have i:=R.o.cell;have j:=R.o.frozen;go_wp2;rw[store7_put R.o];obtain⟨l,o,k⟩:=putI (v:=wh9) (wh9_in _) R.o noU7 (I.o.trans (ah.o.mono I.o.size)) (by omega);obtain⟨w9,g⟩:=eX (putB ww5 (w.heap.size+1+1) 77 #[.b false,.sn,.i 0,.b false,.sn,.i 0,.b true]);rw[show(wh9:IvN).cells=#[.b false,.sn,.i 0,.b false,.sn,.i 0,.b true]from rfl,←g]at l o k;rw[←g];clear g;clear i j;have i:=k.o.cell;have j:=k.o.frozen;refine bodyPost_ret (v:= .agg #[.b false,.sn,.i 0,.b false,.sn,.i 0,.b true]) (by simp[results,Tryz.results158,go_sem,i]) rfl ?_
   exact⟨wh9,rfl,G,l,o⟩
  | true=>
   obtain⟨Z,ai⟩:=eX (signI u.x);have aa:=hI ai.symm;clear ai;go_wp2_with fail;refine(isign_in u ww3 ae.o).mono ?_;rw[aa.o];rintro e ww6 ⟨rfl,r⟩;have S:=I.o.t r;have T:=F.o.b9 r;clear s y z C
   by_cases h0:Z=0
   case pos=>
    have d0:(Z==0)=true:=(by simp[h0]);have G:=hI (show whI=J by rw[L.o];unfold divI;rw[H.o,Q.o,aa.o,h0];rfl);clear h0;have i:=T.o.cell;have j:=T.o.frozen;go_wp2_with fail;refine(whole_any ww6).mono ?_;rintro e ww7 ⟨rfl,aj⟩;have U:=T.o.b9 aj;clear i j;have i:=U.o.cell;have j:=U.o.frozen;go_wp2;rw[store7_put U.o];obtain⟨l,o,k⟩:=putI (v:=wh9) (wh9_in _) U.o noU7 (S.o.trans (aj.o.mono S.o.size)) (by omega);obtain⟨w9,g⟩:=eX (putB ww7 (w.heap.size+1+1) 77 #[.b false,.sn,.i 0,.b false,.sn,.i 0,.b true]);rw[show(wh9:IvN).cells=#[.b false,.sn,.i 0,.b false,.sn,.i 0,.b true]from rfl,←g]at l o k;rw[←g];clear g;clear i j;have i:=k.o.cell;have j:=k.o.frozen;refine bodyPost_ret (v:= .agg #[.b false,.sn,.i 0,.b false,.sn,.i 0,.b true]) (by simp[results,Tryz.results158,go_sem,i]) rfl ?_;exact⟨wh9,rfl,G,l,o⟩
   have d0:(Z==0)=false:=(by simp[h0]);have G:=hI (show fourI (fun a b up=>divE a b p up) v.x u.x=J by rw[L.o];unfold divI;rw[H.o,Q.o,aa.o,decide_eq_true h0];rfl);clear h0;have s:=(N.o.belowW r.o).cell;have y:=(N.o.belowW r.o).frozen;have z:=(O.o.belowW r.o).cell;have C:=(O.o.belowW r.o).frozen;go_wp2_with fail;refine(fourD_in v u p ww6 ((ab.o.belowW E.o).belowW r.o) (ae.o.belowW r.o) ((((HT.o.belowW M.o).belowW D.o).belowW E.o).belowW r.o)).mono ?_;rw[G.o];rintro e ww8 ⟨q,rfl,HQ,az,ak⟩;have V:=T.o.b9 ak;clear s y z C;have i:=V.o.cell;have j:=V.o.frozen;go_wp2;rw[store7_put V.o];obtain⟨l,o,k⟩:=putI (v:=q) az.o V.o noU7 (S.o.trans (ak.o.mono S.o.size)) (by omega);obtain⟨w9,g⟩:=eX (putB ww8 (w.heap.size+1+1) 77 #[.b q.x.lo.neg,.l q.A q.n q.c,.i q.x.lo.e,.b q.x.hi.neg,.l q.B q.m q.d,.i q.x.hi.e,.b q.x.all]);rw[show(q:IvN).cells=#[.b q.x.lo.neg,.l q.A q.n q.c,.i q.x.lo.e,.b q.x.hi.neg,.l q.B q.m q.d,.i q.x.hi.e,.b q.x.all]from rfl,←g]at l o k;rw[←g];clear g;clear i j;have i:=k.o.cell;have j:=k.o.frozen;refine bodyPost_ret (v:= .agg #[.b q.x.lo.neg,.l q.A q.n q.c,.i q.x.lo.e,.b q.x.hi.neg,.l q.B q.m q.d,.i q.x.hi.e,.b q.x.all]) (by simp[results,Tryz.results158,go_sem,i]) rfl ?_;exact⟨q,rfl,HQ,l,o⟩
