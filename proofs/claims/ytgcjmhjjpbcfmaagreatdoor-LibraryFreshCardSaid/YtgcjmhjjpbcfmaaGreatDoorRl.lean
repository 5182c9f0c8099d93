import Derived.Test.YtgcjmhjjpbcfmaaGreatDoorRk
import Derived.Lib.AppendZerosOnto
set_option maxHeartbeats 4000000
set_option maxRecDepth 100000
namespace Go.Proofs.YtgcjmhjjpbcfmaaGreatDoor
open Go.RowKit Go.Fl Go.Fl.Lb
theorem Tryz.infoRatio9:(Tryz.prog.info? 42).map (fun i=>(i.zero,i.size,i.bytes))=some (some (.agg #[.i 0,.i 0]),2,16):=by kernel_rfl
theorem below_own{e:TypeId}{size n:Nat}{v:Value}{xs:List Value}{w0 w w':World}(h:Below w0.heap.size w0 w)(hg:w.grownBy w' v.ownBlock)(ho:w.ownsRow w0.heap.size e size v n xs):Below w0.heap.size w0 w':=
 ⟨hg.os.trans h.os,hg.tape.trans h.tape,hg.output.trans h.output,Nat.le_trans h.size hg.size,fun k hk=>(hg.block k (Nat.lt_of_lt_of_le hk h.size) (fun q=>by
  rcases ho.2 with⟨hv,_⟩ | ⟨g,cap,cur,hv,hb,_⟩
  ·
   rw[hv]at q;cases q
  rw[hv]at q;have q1:k=g:=Option.some.inj q
  omega)).trans (h.block k hk)⟩
theorem wpList_append_run{ops:Array Oper}{rest:List Oper}{o:Oper}{a:Act}{w w':World}{Q:Exit→Act→World→Prop}(hw:Region.wanted o (yielded ops a.tmps)=true)(s x:Operand)(t tx:TypeId)
 (ho:o.op= .call {callee:= .builtin .append,args:=#[s,x],argTypes:=#[t,tx]}) {v u v':Value} (hs:a.eval s=v) (hx:a.eval x=u) (hrun:(Builtin.append_ #[t,tx] o.type #[v,u]).run Tryz.prog w= .ok v' w') (k:wpList Tryz.prog ops Q rest (a.put o.dst v') w'):wpList Tryz.prog ops Q (o::rest) a w:=by
 refine BigFrame.wpList_want hw fun K hK=>?_
 unfold Oper.wp execOp;simp only[ho,resolve,invoke,builtin,Sem.run_bind,Sem.run_pure,Result.andThen_ok,List.map_toArray,List.map_cons,List.map_nil,hs,hx,hrun];exact hK _ _ k
structure SlsN where
  A:Option Addr
  n:Nat
  c:Nat
  xs:List Value
def SlsN.cells(x:SlsN):List Value:=[.l x.A x.n x.c]
structure InSl (size:Nat) (w:World) (x:SlsN):Prop where
  r:Rd w size x.A x.n x.xs
  o:∀u∈x.xs,u.oneCell'=true
theorem InSl.below{size:Nat}{w w':World}{x:SlsN}(h:InSl size w x)(hb:Below w.heap.size w w'):InSl size w' x:=⟨h.r.below hb,h.o⟩
theorem run_append_zero9{base size n:Nat}{t ty e:TypeId}{i:TypeInfo}{v:Value}{xs:List Value}(w:World)(ht:Tryz.prog.underlying t=some (.slice e))(hi:Tryz.prog.info? e=some i)(ho:w.ownsRow base e size v n xs)(A:Option Addr)(c:Nat):
 (Builtin.append_ #[t,t] ty #[v,.l A 0 c]).run Tryz.prog w= .ok v w:=by
 have hf:(Builtin.firstCells i.size 0 (.l A 0 c)).run Tryz.prog w= .ok #[] w:=by
  cases A with
  | none=>exact run_firstCells_none w i.size 0 0 c
  | some a=>exact run_firstCells_some w i.size 0 a 0 c [] (by simp) (fun j v h=>by cases h)
 rcases ho.2 with⟨hv,_⟩ | ⟨g,cap,cur,hv,_,_,hc,_⟩
 ·
  subst hv
  simp[Builtin.append_,run_underlying ht,sizeOf,typeInfo,hi,Builtin.lenOf,hf]
 subst hv
 simp[Builtin.append_,run_underlying ht,sizeOf,typeInfo,hi,Builtin.lenOf,hf,hc,storeCells]
def sumN(l:List SlsN):Nat:=(l.map SlsN.n).sum
theorem sumN_snoc{l:List SlsN}{j:Nat}{x:SlsN}(h:l[j]? =some x):sumN (l.take (j+1))=sumN (l.take j)+x.n:=by
 unfold sumN;rw[take_snocA _ _ _ h,List.map_append,List.sum_append]
 simp
theorem sumN_le(l:List SlsN)(j:Nat):sumN (l.take j)≤sumN l:=by
 unfold sumN
 conv=>rhs;rw[←List.take_append_drop j l,List.map_append,List.sum_append]
 omega
theorem grow_D(n:Nat)(w:World)(hn:n≤1000):
 Calls Tryz.prog 66 #[.sn,.i n] w (fun e w'=>∃v,e= .returned v∧Hid (w'.ownsRow w.heap.size 54 5 v 0 [])∧Hid (Below w.heap.size w w')):=by
 have o:¬((n:Int)<0):=(by omega);have s:decide ((n:Int)<0)=false:=decide_eq_false o;have u:IntKind.i64.wrap (0-0:Int)=0:=rfl;have x:IntKind.i64.wrap ((n:Int)-0)=n:=(by rw[IntKind.wrap_i64];omega);have y:IntKind.i64.wrap (n:Int)=n:=(by rw[IntKind.wrap_i64];omega)
 by_cases h0:n=0
 ·
  subst h0
  go_in
  go_wp2;go_ret;exact⟨_,rfl,hI (World.ownsRow_nil w _ _ _),hI (Below.refl _ _)⟩
 have z:decide ((0:Int)<n)=true:=dT;have B:decide (0<n)=true:=dT;obtain⟨g,i,j,k,b⟩:=info_parts Tryz.infoDecl
 have c:∀ty,(Builtin.append_ #[39,3] ty #[.sn,.i n]).run Tryz.prog w=
  .ok (.l (some ⟨w.heap.size,0,none⟩) n (grownCap w n 0 54)) (w.drew.alloc (.cells (Builtin.zeroCells (.agg #[.string ⟨#[]⟩,.i 0,.i 0,.i 0,.i 0]:Value).cells n++Builtin.zeroCells (.agg #[.string ⟨#[]⟩,.i 0,.i 0,.i 0,.i 0]:Value).cells (grownCap w n 0 54-n)) 54)):=fun ty=>by
  have h:=Lib.run_append_grow_zeros (P:=Tryz.prog) w 39 3 ty 54 g (.agg #[.string ⟨#[]⟩,.i 0,.i 0,.i 0,.i 0]) .i64 .i64 Tryz.underlying39 Tryz.underlying3 i j none 0 0 [] (run_firstCells_none w.drew g.size 0 0 0) n (by omega) (by rw[k];decide) (by omega) (by omega) (by rw[b];omega) (by rw[b];exact growslice_fits (by omega) (by omega))
  simpa using h
 have p:=grownCap_ge w n 0 54;have a:=grownCap_le_maxLen w n 0 54 (by unfold maxLen;omega);obtain⟨G,l⟩:=eX (grownCap w n 0 54);rw[←l]at c p a;obtain⟨m,d⟩:=eX (Builtin.zeroCells (.agg #[.string ⟨#[]⟩,.i 0,.i 0,.i 0,.i 0]:Value).cells n++Builtin.zeroCells (.agg #[.string ⟨#[]⟩,.i 0,.i 0,.i 0,.i 0]:Value).cells (G-n));rw[←d]at c
 have q:=hI (show m.size=G*5 by
  rw[d,Array.size_append,size_zeroCells,size_zeroCells]
  show n*5+(G-n)*5=G*5
  omega)
 have r:=hI a;have C:G≤9223372036854775807:=(by unfold maxLen at a;omega);have D:0≤G:=(by omega);clear l d a i j k b
 go_in
 go_wp2_with (at_builtin;refine wpList_append_run rfl _ _ _ _ rfl rfl rfl (c _) ?_)
 go_wp2;go_ret;exact⟨_,rfl,hI ⟨rfl,.inr ⟨w.heap.size,G,m,rfl,Nat.le_refl _,heap_alloc_new w _,by omega,r.o,q.o,by simp⟩⟩,hI (below_drewN (below_box w _) 1)⟩
theorem concat_D(A:Option Addr)(m c:Nat)(ss:List SlsN)(w:World)(hs:InL 1 SlsN.cells (InSl 5) w A m c ss)(hN:sumN ss≤1000):
 Calls Tryz.prog 40 #[.l A m c] w (fun e w'=>∃v,e= .returned v∧Hid (w'.ownsRow w.heap.size 54 5 v (sumN ss) (ss.flatMap SlsN.xs))∧Hid (Below w.heap.size w w')):=by
 have J:=hI hs;have R:=hI hs.hl;have ai:m≤9223372036854775807:=(by have h1:=hs.hc;have T:=hs.hm;unfold maxLen at T;omega);clear hs
 go_in
 go_wp2
 go_loopg [11,3] m (fun k i z wr=>∃(j S:Nat),i= .i j∧j≤m∧k=m-j∧z= .i S∧Hid (S=sumN (ss.take j))∧wr=w)
 case atStart=>exact⟨0,0,rfl,by omega,by omega,rfl,hI rfl,rfl⟩
 obtain⟨j,S,rfl,hj,rfl,rfl,B,L⟩:=hrel;rw[L];clear L;have U:S≤1000:=(by rw[B.o];exact Nat.le_trans (sumN_le ss j) hN)
 by_cases hlt:j<m
 ·
  obtain⟨b,o,x,C,d,s,a⟩:=InL.at_ (cells:=SlsN.cells) (fun z=>rfl) J.o j hlt;subst C;have V:=a.lt;have D:w.cell? ⟨b,o+j,none⟩=some (.l x.A x.n x.c):=(by have:=a.c 0 _ rfl;simpa using this);have g:=hI (sumN_snoc d);have W:S+x.n≤1000:=(by rw[B.o,←g.o];exact Nat.le_trans (sumN_le ss _) hN);have E:decide ((j:Int)<m)=true:=dT;have X:decide (j<m)=true:=decide_eq_true hlt;have Y:0≤(j:Int)∧(j:Int)<m:=(by omega);have e1:IntKind.i64.wrap ((S:Int)+(x.n:Int))=(S:Int)+x.n:=(by rw[IntKind.wrap_i64];omega);have e2:decide ((S:Int)+x.n<0)=false:=dF;clear d s a;go_wp2
  go_roundg (m-(j+1))
  case measure=>omega
  case rel=>exact⟨j+1,S+x.n,by go_num,by omega,rfl,by go_num,hI (by rw[g.o,B.o]),rfl⟩
 have Z:j=m:=(by omega);subst Z;have E:decide ((j:Int)<j)=false:=dF;go_wp2_with fail;refine(grow_D S w U).mono ?_;rintro e w1 ⟨v,rfl,aa,ab⟩;go_wp2
 go_loopg [27,6] j (fun k i z wr=>∃(q:Nat),i= .i q∧q≤j∧k=j-q∧Hid (wr.ownsRow w.heap.size 54 5 z (sumN (ss.take q)) ((ss.take q).flatMap SlsN.xs))∧Hid (Below w.heap.size w wr))
 case atStart=>exact⟨0,rfl,by omega,by omega,aa,ab⟩
 obtain⟨q,rfl,hq,rfl,l,p⟩:=hrel
 by_cases hlq:q<j
 ·
  obtain⟨b,o,x,C,d,s,a⟩:=InL.at_ (cells:=SlsN.cells) (fun z=>rfl) (J.o.below (fun z _ hz=>hz.below p.o) p.o) q hlq;subst C;have V:=a.lt;have D:wr.cell? ⟨b,o+q,none⟩=some (.l x.A x.n x.c):=(by have:=a.c 0 _ rfl;simpa using this);have g:=hI (sumN_snoc d);have u:=hI s;have M:=hI (take_snocA ss q x d);have W:sumN (ss.take q)+x.n≤1000:=(by rw[←g.o];exact Nat.le_trans (sumN_le ss _) hN);have E:decide ((q:Int)<j)=true:=dT;have X:decide (q<j)=true:=decide_eq_true hlq;have Y:0≤(q:Int)∧(q:Int)<j:=(by omega);have ac:=p.o.size;clear d s a;obtain⟨i0,y,F,G,H⟩:=info_parts Tryz.infoDecl
  by_cases hz0:x.n=0
  ·
   have N:x.xs=[]:=List.eq_nil_of_length_eq_zero (by rw[u.o.r.1,hz0,Nat.zero_mul])
   have ae:=fun ty=>run_append_zero9 (ty:=ty) wr Tryz.underlying39 y l.o x.A x.c
   rw[hz0]at D;have I:=hI (show wr.ownsRow w.heap.size 54 5 u6 (sumN (ss.take (q+1))) ((ss.take (q+1)).flatMap SlsN.xs)by rw[g.o,M.o,List.flatMap_append,hz0];simpa [N]using l.o);clear hz0 N y F G H
   go_wp2_with (at_builtin;refine wpList_append_run rfl _ _ _ _ rfl rfl rfl (ae _) ?_)
   go_wp2
   go_roundg (j-(q+1))
   case measure=>omega
   case rel=>exact⟨q+1,by go_num,by omega,rfl,I,p⟩
  have O:x.A=none→x.c=0:=fun e=>by
   obtain⟨b',o',P,_⟩:=u.o.r.at_ (by omega);rw[e]at P
   cases P
  have af:=hI O;clear hz0 O
  go_wp2_with (at_builtin;refine wpList_append_rd _ rfl _ _ _ rfl w.heap.size 54 i0 _ 5 48 Tryz.underlying39 y F G H rfl (by omega) _ _ _ rfl l.o x.A x.n x.c af.o x.xs rfl u.o.r u.o.o (by unfold maxLen;omega) (by omega) ac ?_)
  intro v9 w9 hown9 hgr9;have I:=hI (show w9.ownsRow w.heap.size 54 5 v9 (sumN (ss.take (q+1))) ((ss.take (q+1)).flatMap SlsN.xs)by rw[g.o,M.o,List.flatMap_append];simpa using hown9);have ag:=hI (below_own p.o hgr9 l.o);clear hown9 hgr9 y F G H D;go_wp2
  go_roundg (j-(q+1))
  case measure=>omega
  case rel=>exact⟨q+1,by go_num,by omega,rfl,I,ag⟩
 have ah:q=j:=(by omega);subst ah;have E:decide ((q:Int)<q)=false:=dF;have Q:=l;rw[List.take_of_length_le (show ss.length≤q by rw[R.o];omega)]at Q;clear l;go_wp2;go_ret;exact⟨_,rfl,Q,p⟩
theorem grow_R(n:Nat)(w:World)(hn:n≤1000):
 Calls Tryz.prog 67 #[.sn,.i n] w (fun e w'=>∃v,e= .returned v∧Hid (w'.ownsRow w.heap.size 42 2 v 0 [])∧Hid (Below w.heap.size w w')):=by
 have o:¬((n:Int)<0):=(by omega);have s:decide ((n:Int)<0)=false:=decide_eq_false o;have u:IntKind.i64.wrap (0-0:Int)=0:=rfl;have x:IntKind.i64.wrap ((n:Int)-0)=n:=(by rw[IntKind.wrap_i64];omega);have y:IntKind.i64.wrap (n:Int)=n:=(by rw[IntKind.wrap_i64];omega)
 by_cases h0:n=0
 ·
  subst h0
  go_in
  go_wp2;go_ret;exact⟨_,rfl,hI (World.ownsRow_nil w _ _ _),hI (Below.refl _ _)⟩
 have z:decide ((0:Int)<n)=true:=dT;have B:decide (0<n)=true:=dT;obtain⟨g,i,j,k,b⟩:=info_parts Tryz.infoRatio9
 have c:∀ty,(Builtin.append_ #[71,3] ty #[.sn,.i n]).run Tryz.prog w=
  .ok (.l (some ⟨w.heap.size,0,none⟩) n (grownCap w n 0 42)) (w.drew.alloc (.cells (Builtin.zeroCells (.agg #[.i 0,.i 0]:Value).cells n++Builtin.zeroCells (.agg #[.i 0,.i 0]:Value).cells (grownCap w n 0 42-n)) 42)):=fun ty=>by
  have h:=Lib.run_append_grow_zeros (P:=Tryz.prog) w 71 3 ty 42 g (.agg #[.i 0,.i 0]) .i64 .i64 Tryz.underlying71 Tryz.underlying3 i j none 0 0 [] (run_firstCells_none w.drew g.size 0 0 0) n (by omega) (by rw[k];decide) (by omega) (by omega) (by rw[b];omega) (by rw[b];exact growslice_fits (by omega) (by omega))
  simpa using h
 have p:=grownCap_ge w n 0 42;have a:=grownCap_le_maxLen w n 0 42 (by unfold maxLen;omega);obtain⟨G,l⟩:=eX (grownCap w n 0 42);rw[←l]at c p a;obtain⟨m,d⟩:=eX (Builtin.zeroCells (.agg #[.i 0,.i 0]:Value).cells n++Builtin.zeroCells (.agg #[.i 0,.i 0]:Value).cells (G-n));rw[←d]at c
 have q:=hI (show m.size=G*2 by
  rw[d,Array.size_append,size_zeroCells,size_zeroCells]
  show n*2+(G-n)*2=G*2
  omega)
 have r:=hI a;have C:G≤9223372036854775807:=(by unfold maxLen at a;omega);have D:0≤G:=(by omega);clear l d a i j k b
 go_in
 go_wp2_with (at_builtin;refine wpList_append_run rfl _ _ _ _ rfl rfl rfl (c _) ?_)
 go_wp2;go_ret;exact⟨_,rfl,hI ⟨rfl,.inr ⟨w.heap.size,G,m,rfl,Nat.le_refl _,heap_alloc_new w _,by omega,r.o,q.o,by simp⟩⟩,hI (below_drewN (below_box w _) 1)⟩
theorem concat_R(A:Option Addr)(m c:Nat)(ss:List SlsN)(w:World)(hs:InL 1 SlsN.cells (InSl 2) w A m c ss)(hN:sumN ss≤1000):
 Calls Tryz.prog 41 #[.l A m c] w (fun e w'=>∃v,e= .returned v∧Hid (w'.ownsRow w.heap.size 42 2 v (sumN ss) (ss.flatMap SlsN.xs))∧Hid (Below w.heap.size w w')):=by
 have J:=hI hs;have R:=hI hs.hl;have ai:m≤9223372036854775807:=(by have h1:=hs.hc;have T:=hs.hm;unfold maxLen at T;omega);clear hs
 go_in
 go_wp2
 go_loopg [11,3] m (fun k i z wr=>∃(j S:Nat),i= .i j∧j≤m∧k=m-j∧z= .i S∧Hid (S=sumN (ss.take j))∧wr=w)
 case atStart=>exact⟨0,0,rfl,by omega,by omega,rfl,hI rfl,rfl⟩
 obtain⟨j,S,rfl,hj,rfl,rfl,B,L⟩:=hrel;rw[L];clear L;have U:S≤1000:=(by rw[B.o];exact Nat.le_trans (sumN_le ss j) hN)
 by_cases hlt:j<m
 ·
  obtain⟨b,o,x,C,d,s,a⟩:=InL.at_ (cells:=SlsN.cells) (fun z=>rfl) J.o j hlt;subst C;have V:=a.lt;have D:w.cell? ⟨b,o+j,none⟩=some (.l x.A x.n x.c):=(by have:=a.c 0 _ rfl;simpa using this);have g:=hI (sumN_snoc d);have W:S+x.n≤1000:=(by rw[B.o,←g.o];exact Nat.le_trans (sumN_le ss _) hN);have E:decide ((j:Int)<m)=true:=dT;have X:decide (j<m)=true:=decide_eq_true hlt;have Y:0≤(j:Int)∧(j:Int)<m:=(by omega);have e1:IntKind.i64.wrap ((S:Int)+(x.n:Int))=(S:Int)+x.n:=(by rw[IntKind.wrap_i64];omega);have e2:decide ((S:Int)+x.n<0)=false:=dF;clear d s a;go_wp2
  go_roundg (m-(j+1))
  case measure=>omega
  case rel=>exact⟨j+1,S+x.n,by go_num,by omega,rfl,by go_num,hI (by rw[g.o,B.o]),rfl⟩
 have Z:j=m:=(by omega);subst Z;have E:decide ((j:Int)<j)=false:=dF;go_wp2_with fail;refine(grow_R S w U).mono ?_;rintro e w1 ⟨v,rfl,aa,ab⟩;go_wp2
 go_loopg [27,6] j (fun k i z wr=>∃(q:Nat),i= .i q∧q≤j∧k=j-q∧Hid (wr.ownsRow w.heap.size 42 2 z (sumN (ss.take q)) ((ss.take q).flatMap SlsN.xs))∧Hid (Below w.heap.size w wr))
 case atStart=>exact⟨0,rfl,by omega,by omega,aa,ab⟩
 obtain⟨q,rfl,hq,rfl,l,p⟩:=hrel
 by_cases hlq:q<j
 ·
  obtain⟨b,o,x,C,d,s,a⟩:=InL.at_ (cells:=SlsN.cells) (fun z=>rfl) (J.o.below (fun z _ hz=>hz.below p.o) p.o) q hlq;subst C;have V:=a.lt;have D:wr.cell? ⟨b,o+q,none⟩=some (.l x.A x.n x.c):=(by have:=a.c 0 _ rfl;simpa using this);have g:=hI (sumN_snoc d);have u:=hI s;have M:=hI (take_snocA ss q x d);have W:sumN (ss.take q)+x.n≤1000:=(by rw[←g.o];exact Nat.le_trans (sumN_le ss _) hN);have E:decide ((q:Int)<j)=true:=dT;have X:decide (q<j)=true:=decide_eq_true hlq;have Y:0≤(q:Int)∧(q:Int)<j:=(by omega);have ac:=p.o.size;clear d s a;obtain⟨i0,y,F,G,H⟩:=info_parts Tryz.infoRatio9
  by_cases hz0:x.n=0
  ·
   have N:x.xs=[]:=List.eq_nil_of_length_eq_zero (by rw[u.o.r.1,hz0,Nat.zero_mul])
   have ae:=fun ty=>run_append_zero9 (ty:=ty) wr Tryz.underlying71 y l.o x.A x.c
   rw[hz0]at D;have I:=hI (show wr.ownsRow w.heap.size 42 2 u6 (sumN (ss.take (q+1))) ((ss.take (q+1)).flatMap SlsN.xs)by rw[g.o,M.o,List.flatMap_append,hz0];simpa [N]using l.o);clear hz0 N y F G H
   go_wp2_with (at_builtin;refine wpList_append_run rfl _ _ _ _ rfl rfl rfl (ae _) ?_)
   go_wp2
   go_roundg (j-(q+1))
   case measure=>omega
   case rel=>exact⟨q+1,by go_num,by omega,rfl,I,p⟩
  have O:x.A=none→x.c=0:=fun e=>by
   obtain⟨b',o',P,_⟩:=u.o.r.at_ (by omega);rw[e]at P
   cases P
  have af:=hI O;clear hz0 O
  go_wp2_with (at_builtin;refine wpList_append_rd _ rfl _ _ _ rfl w.heap.size 42 i0 _ 2 16 Tryz.underlying71 y F G H rfl (by omega) _ _ _ rfl l.o x.A x.n x.c af.o x.xs rfl u.o.r u.o.o (by unfold maxLen;omega) (by omega) ac ?_)
  intro v9 w9 hown9 hgr9;have I:=hI (show w9.ownsRow w.heap.size 42 2 v9 (sumN (ss.take (q+1))) ((ss.take (q+1)).flatMap SlsN.xs)by rw[g.o,M.o,List.flatMap_append];simpa using hown9);have ag:=hI (below_own p.o hgr9 l.o);clear hown9 hgr9 y F G H D;go_wp2
  go_roundg (j-(q+1))
  case measure=>omega
  case rel=>exact⟨q+1,by go_num,by omega,rfl,I,ag⟩
 have ah:q=j:=(by omega);subst ah;have E:decide ((q:Int)<q)=false:=dF;have Q:=l;rw[List.take_of_length_le (show ss.length≤q by rw[R.o];omega)]at Q;clear l;go_wp2;go_ret;exact⟨_,rfl,Q,p⟩
end Go.Proofs.YtgcjmhjjpbcfmaaGreatDoor
namespace Go.Proofs.YtgcjmhjjpbcfmaaGreatDoor
open Go.RowKit Go.Fl Go.Fl.Nm Go.Fl.Dy Go.Fl.Lb
def NU(u:Value):Prop:=∀x:Int,u≠ .int .u32 x
def OwnN(w:World)(base:Nat)(e:TypeId)(size:Nat)(v:Value)(n:Nat)(xs:List Value):Prop:=
  xs.length=n*size∧((v= .sn∧n=0)∨∃(g cap:Nat) (cur:Array Value),v= .l (some ⟨g,0,none⟩) n cap∧base≤g∧Blk w g e cur∧n≤cap∧cap≤maxLen∧cur.size=cap*size∧cur.toList.take (n*size)=xs∧∀u∈cur.toList,NU u)
theorem OwnN.nil(w:World)(base:Nat)(e:TypeId)(size:Nat):OwnN w base e size (.sn) 0 []:=⟨by simp,.inl ⟨rfl,rfl⟩⟩
section
variable {w w':World} {base:Nat} {e:TypeId} {size n:Nat} {v:Value} {xs:List Value}
theorem OwnN.own(h:OwnN w base e size v n xs):w.ownsRow base e size v n xs:=⟨h.1,by
 rcases h.2 with h | ⟨g,cap,cur,h1,h2,h3,h4,h5,h6,h7,_⟩
 ·
  exact .inl h
 exact .inr ⟨g,cap,cur,h1,h2,h3,h4,h5,h6,h7⟩⟩
theorem OwnN.belowW(h:OwnN w base e size v n xs)(hb:Below w.heap.size w w'):OwnN w' base e size v n xs:=⟨h.1,by
 rcases h.2 with h | ⟨g,cap,cur,h1,h2,h3,h4⟩
 ·
  exact .inl h
 exact .inr ⟨g,cap,cur,h1,h2,h3.belowW hb,h4⟩⟩
theorem OwnN.b9(h:OwnN w base e size v n xs)(hb:Go.RowKit.Hid (Go.RowKit.Below w.heap.size w w')):Go.RowKit.Hid (OwnN w' base e size v n xs):=hI (OwnN.belowW h hb.o)
theorem nou_of{cur:Array Value}(h:∀u∈cur.toList,NU u):NoU cur:=fun i x hx=>by
 have:=h _ (List.mem_of_getElem? (show cur.toList[i]? =some (.int .u32 x)by rw[Array.getElem?_toList];exact hx)) x;exact this rfl
theorem below_none(hg:w.grownBy w' none):Below w.heap.size w w':=⟨hg.os,hg.tape,hg.output,hg.size,fun k hk=>hg.block k hk (fun q=>by cases q)⟩
theorem OwnN.sl(h:OwnN w base e size v n xs)(hg:w.grownBy w' v.ownBlock){A:Option Addr}{m c:Nat}{l:List Nat}(hs:Sl w A m c l):Sl w' A m c l:=by
 rcases h.2 with⟨hv,_⟩ | ⟨g,cap,cur,hv,_,h3,_,_,_,_,h8⟩
 ·
  rw[hv]at hg;exact hs.belowW (below_none hg)
 rw[hv]at hg;exact hs.far h3 (nou_of h8) hg
theorem OwnN.ini(h:OwnN w base e size v n xs)(hg:w.grownBy w' v.ownBlock){x:IvN}(hx:InI w x):InI w' x:=⟨h.sl hg hx.l,h.sl hg hx.h,hx.o⟩
theorem OwnN.rd(h:OwnN w base e size v n xs):∃(A:Option Addr) (c:Nat),v= .l A n c∧n≤c∧c≤maxLen∧(A=none→c=0)∧Rd w size A n xs:=by
 rcases h.2 with⟨hv,hn⟩ | ⟨g,cap,cur,hv,h2,h3,h4,h5,h6,h7,h8⟩
 ·
  subst hn;have hx:xs=[]:=List.eq_nil_of_length_eq_zero (by have:=h.1;simpa using this);subst hx;exact⟨none,0,hv,Nat.le_refl _,by unfold maxLen;omega,fun _=>rfl,rd_nil _ _⟩
 refine⟨some ⟨g,0,none⟩,cap,hv,h4,h5,(fun q=>by cases q),h.1,fun _=>⟨g,0,rfl,h3.lt,fun j u hu=>?_⟩⟩;rw[Nat.zero_add,h3.cell j];have h9:(cur.toList.take (n*size))[j]? =some u:=(by rw[h7];exact hu)
 have h10:cur.toList[j]? =some u:=by
  rw[List.getElem?_take]at h9
  split at h9
  ·
   exact h9
  cases h9
 rw[←Array.getElem?_toList];exact h10
theorem zc_all{z:Array Value}(hz:∀u∈z.toList,NU u)(k:Nat):∀u∈(Builtin.zeroCells z k).toList,NU u:=by
 intro u hu;unfold Builtin.zeroCells at hu;rw[Array.toList_map]at hu;obtain⟨i,hi,e⟩:=List.mem_map.1 hu;have hlt:i<k*z.size:=(by simpa using hi)
 have hs:0<z.size:=by
  rcases Nat.eq_zero_or_pos z.size with h0 | h0
  ·
   rw[h0]at hlt;omega
  exact h0
 have hm:i%z.size<z.size:=Nat.mod_lt _ hs;rw[getElem!_pos z _ hm]at e;rw[←e];exact hz _ (by simp)
end
section
variable {P:Program}
theorem run_append_nu(w:World)(base:Nat)(t ty e:TypeId)(i:TypeInfo)(z:Value)(size bytes:Nat)(ht:P.underlying t=some (.slice e))(hi:P.info? e=some i)(hz:i.zero=some z)
 (hsize:i.size=size) (hby:i.bytes=bytes) (hzs:z.cells.size=size) (hsz:0<size) (v:Value) (n:Nat) (xs:List Value) (hown:OwnN w base e size v n xs)
 (a:Addr) (m c:Nat) (hm:0<m) (news:List Value) (hl:news.length=m*size) (hnews:∀j u,news[j]? =some u→w.cell? (a.add j)=some u) (h1:∀u∈news,u.oneCell'=true)
 (h63:n+m≤1000000) (hbytes:(n+m)*bytes≤140737488355328) (hbase:base≤w.heap.size) (hnu:∀u∈news,NU u) (hzn:∀u∈z.cells.toList,NU u):
 ∃v' w',(Builtin.append_ #[t,t] ty #[v,.l (some a) m c]).run P w= .ok v' w'∧OwnN w' base e size v' (n+m) (xs++news)∧w.grownBy w' v.ownBlock:=by
 subst hsize;subst hby;have f:(xs++news).length=(n+m)*i.size:=(by rw[List.length_append,hown.1,hl,Nat.add_mul])
 have o:∀(cs:Array Value) (cap:Nat) (row:Option Nat),n+m≤cap→cap≤maxLen→cs.size=cap*i.size→cs.toList.take ((n+m)*i.size)=xs++news→(∀u∈cs.toList,NU u)→
  OwnN (w.drew.alloc (.cells cs e)) base e i.size (.l (some ⟨w.heap.size,0,none⟩) (n+m) cap) (n+m) (xs++news)∧w.grownBy (w.drew.alloc (.cells cs e)) row:=fun cs cap row g1 g2 g3 g4 g5=>
  ⟨⟨f,.inr ⟨w.heap.size,cap,cs,rfl,hbase,heap_alloc_new w.drew _,g1,g2,g3,g4,g5⟩⟩,⟨rfl,rfl,rfl,by simp,fun k hk _=>heap_alloc_old w.drew _ hk⟩⟩
 have r:n+m≤maxLen:=by unfold maxLen;omega
 rcases hown.2 with⟨rfl,rfl⟩ | ⟨g,cap,cur,rfl,hbg,hg,hnc,hcm,hcs,htake,hq⟩
 ·
  have s:xs=[]:=List.eq_nil_of_length_eq_zero (by have:=hown.1;simpa using this);subst s;have d:=run_append_nil (P:=P) w t ty e i z ht hi hz a m c news hl hnews hm (by omega) (by have x:=hbytes;simp only[Nat.zero_add]at x;omega);have p:=grownCap_ge w m 0 e;have l:=grownCap_le_maxLen w m 0 e (by unfold maxLen;omega)
  have b:=o (news.toArray++Builtin.zeroCells z.cells (grownCap w m 0 e-m)) (grownCap w m 0 e) (Value.ownBlock (.sn)) (by omega) l (by
   rw[Array.size_append,size_zeroCells,hzs,List.size_toArray,hl,←Nat.add_mul]
   congr 1
   omega) (by
   rw[Array.toList_append,List.nil_append,Nat.zero_add,←hl]
   exact List.take_left) (by
   intro u hu;rw[Array.toList_append]at hu
   rcases List.mem_append.1 hu with hu | hu
   ·
    exact hnu u hu
   exact zc_all hzn _ u hu)
  rw[Nat.zero_add]at b ⊢;exact⟨_,_,d,b.1,b.2⟩
 by_cases hroom:n+m≤cap
 ·
  have y:n*i.size+news.length≤cur.size:=(by rw[hl,hcs,←Nat.add_mul];exact Nat.mul_le_mul_right _ hroom);have d:=run_append_room (P:=P) w t ty e i ht hi g n cap cur hg a m c news hl hnews h1 hroom y;refine⟨_,_,d,⟨f,.inr ⟨g,cap,_,rfl,hbg,setRow_heap w g cur _ e _ hg,hroom,hcm,?_,?_,?_⟩⟩,⟨rfl,rfl,rfl,by simp,fun k _ hk=>setRow_other w g k _ (fun q=>hk (by rw[q];rfl))⟩⟩
  ·
   rw[List.size_toArray,List.length_append,List.length_append,List.length_take,List.length_drop,Array.length_toList]
   omega
  ·
   show(cur.toList.take (n*i.size)++news++cur.toList.drop (n*i.size+news.length)).take ((n+m)*i.size)=xs++news
   rw[htake,←f];exact List.take_left
  intro u hu
  rcases List.mem_append.1 hu with hu | hu
  ·
   rcases List.mem_append.1 hu with hu | hu
   ·
    exact hq u (List.mem_of_mem_take hu)
   exact hnu u hu
  exact hq u (List.mem_of_mem_drop hu)
 have A:∀j u,xs[j]? =some u→w.cell? ((⟨g,0,none⟩:Addr).add j)=some u:=hown.own.cells (g:=g) rfl
 have d:=run_append_grow (P:=P) w t ty e i z ht hi hz ⟨g,0,none⟩ n cap xs hown.1 A a m c news hl hnews (by omega) (by omega) (growslice_fits (by omega) hbytes);have p:=grownCap_ge w (n+m) cap e;have l:=grownCap_le_maxLen w (n+m) cap e r
 have b:=o (xs.toArray++news.toArray++Builtin.zeroCells z.cells (grownCap w (n+m) cap e-(n+m))) (grownCap w (n+m) cap e) (Value.ownBlock (.l (some ⟨g,0,none⟩) n cap)) p l (by
  rw[Array.size_append,Array.size_append,size_zeroCells,hzs,List.size_toArray,List.size_toArray,hown.1,hl,←Nat.add_mul,←Nat.add_mul]
  congr 1
  omega) (by
  rw[Array.toList_append,Array.toList_append,←f]
  exact List.take_left) (by
  intro u hu;rw[Array.toList_append,Array.toList_append]at hu
  rcases List.mem_append.1 hu with hu | hu
  ·
   rcases List.mem_append.1 hu with hu | hu
   ·
    exact hq u (List.mem_of_mem_take (show u∈cur.toList.take (n*i.size)by rw[htake];exact hu))
   exact hnu u hu
  exact zc_all hzn _ u hu)
 exact⟨_,_,d,b.1,b.2⟩
end
theorem wpList_append_nu{ops:Array Oper}{rest:List Oper}{o:Oper}{ac:Act}{w:World}{Q:Exit→Act→World→Prop}(hw:Region.wanted o (yielded ops ac.tmps)=true)(s x:Operand)(t:TypeId)
 (ho:o.op= .call {callee:= .builtin .append,args:=#[s,x],argTypes:=#[t,t]})
 (base:Nat) (e:TypeId) (i:TypeInfo) (z:Value) (size bytes:Nat) (ht:Tryz.prog.underlying t=some (.slice e)) (hi:Tryz.prog.info? e=some i) (hz:i.zero=some z)
 (hsize:i.size=size) (hby:i.bytes=bytes) (hzs:z.cells.size=size) (hsz:0<size) (v:Value) (n:Nat) (xs:List Value) (hs:ac.eval s=v) (hown:OwnN w base e size v n xs)
 (gs c:Nat) (news:List Value) (hx:ac.eval x= .l (some ⟨gs,0,none⟩) 1 c) (hl:news.length=size) (hB:Blk w gs e news.toArray) (h1:∀u∈news,u.oneCell'=true)
 (h63:n≤1000) (hbytes:bytes≤1000) (hbase:base≤w.heap.size) (hnu:∀u∈news,NU u) (hzn:∀u∈z.cells.toList,NU u)
 (k:∀v' w',OwnN w' base e size v' (n+1) (xs++news)→w.grownBy w' v.ownBlock→wpList Tryz.prog ops Q rest (ac.put o.dst v') w'):wpList Tryz.prog ops Q (o::rest) ac w:=by
 obtain⟨v',w',a,b,d⟩:=run_append_nu (P:=Tryz.prog) w base t o.type e i z size bytes ht hi hz hsize hby hzs hsz v n xs hown ⟨gs,0,none⟩ 1 c (by omega) news (by rw[hl,Nat.one_mul]) (fun j u hu=>by
  have:(⟨gs,0,none⟩:Addr).add j=⟨gs,j,none⟩:=by unfold Addr.add;split<;>simp_all
  rw[this,hB.cell j]
  simpa using hu) h1 (by omega) (Nat.le_trans (Nat.mul_le_mul (show n+1≤1001 by omega) hbytes) (by decide)) hbase hnu hzn
 exact wpList_append_run hw s x t t ho hs hx a (k v' w' b d)
