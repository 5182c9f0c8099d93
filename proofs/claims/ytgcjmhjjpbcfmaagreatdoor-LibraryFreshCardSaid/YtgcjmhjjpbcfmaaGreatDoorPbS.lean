import Derived.Test.YtgcjmhjjpbcfmaaGreatDoorRj
set_option linter.unusedVariables false
set_option linter.unusedSimpArgs false
open List renaming setIfInBounds_toArray → Lj,set_cons_zero → Lk,set_cons_succ → Lq,getElem_toArray → Ly,getElem_cons_zero → Lz,getElem_cons_succ → Lv
set_option maxHeartbeats 4000000
set_option maxRecDepth 100000
namespace Go.Proofs.YtgcjmhjjpbcfmaaGreatDoor
open Go.RowKit Go.Fl Go.Fl.Lx Go.Fl.Nm Go.Fl.Fm Go.Fl.Rt Go.Fl.Pa
theorem map_at{α β:Type}{f:α→β}{zs ys:List α}{i:Nat}{x y:α}(h:zs.map f=ys.map f)(hx:zs[i]? =some x)(hy:ys[i]? =some y):f x=f y:=by
 have h1:(zs.map f)[i]? =some (f x):=(by rw[List.getElem?_map,hx];rfl);rw[h,List.getElem?_map,hy]at h1;exact(Option.some.inj h1).symm
theorem EqR.yes{α:Type}{a b:α}{w w':World}{e:Ending}(h:EqR a b w e w')(hab:a=b):Ret (.b true) w e w':=by
 obtain⟨r,rfl,hr,hb⟩:=h;rw[hr.o.2 hab];exact⟨rfl,hb⟩
theorem dcl_yes{x y:DcN}(h:x.pl=y.pl):((x.s==y.s)&&((x.a==y.a)&&((x.b==y.b)&&((x.c==y.c)&&(x.d==y.d)))))=true:=by
 injection h with e1 e2;injection e2 with e3 e4;injection e3 with e5 e6;injection e4 with e7 e8
 simp[(str_iff rfl).2 e1,e5,e6,e7,e8]
theorem eqd_yes(A:Option Addr)(len cap:Nat)(zs:List DcN)(A2:Option Addr)(len2 cap2:Nat)(ys:List DcN)(w:World)(hx:InL 5 DcN.cells InD w A len cap zs)(hy:InL 5 DcN.cells InD w A2 len2 cap2 ys)(he:zs.map DcN.pl=ys.map DcN.pl):
 Calls Tryz.prog 32 #[.l A len cap,.l A2 len2 cap2] w (Ret (.b true) w):=by
 have B:=hI hx;have C:=hI hy;have D:=hI he
 obtain rfl:len=len2:=by have h:=congrArg List.length he;rw[List.length_map,List.length_map,hx.hl,hy.hl]at h;exact h
 have M:len≤9223372036854775807:=(by have N:=hx.hc;have E:=hx.hm;unfold maxLen at E;omega);clear hx hy he;have O:((len:Int)!=(len:Int))=false:=(by simp);have P:=run_neq_dcl
 go_in
 go_wp2
 go_loopg [13] len (fun gk d wr=>∃i:Nat,d= .i (i:Nat)∧i≤len∧gk=len-i∧Hid (Below w.heap.size w wr))
 case atStart=>exact⟨0,rfl,Nat.zero_le _,rfl,hI (Below.refl _ _)⟩
 obtain⟨i,rfl,Q,rfl,k⟩:=hrel;have R:=k.o.size
 by_cases hlt:i<len
 ·
  obtain⟨b,o,x,F,p,hx,q⟩:=InD.len (InD.list B.o k.o) i hlt;obtain⟨l,m,y,G,r,hy,u⟩:=InD.len (InD.list C.o k.o) i hlt;subst F G;have H:decide ((i:Int)<(len:Int))=true:=dT;have I:decide (i<len)=true:=decide_eq_true hlt;have T:0≤(i:Int)∧(i:Int)<(len:Int):=(by omega);have J:=hI q;have L:=hI u;have U:=dcl_yes (map_at D.o p r);clear hx hy u q p r;go_upto_region 6 with(fail);have n:=hI (below_dr wr);have g:=J.o.b9 n;have j:=L.o.b9 n;have v:=k.o.t n;refine wp_region_held_drew (S:=fun w'=>w'.cell? ⟨b,o+i*5,none⟩=some (.string x.s)∧w'.cell? ⟨b,o+i*5+1,none⟩=some (.i x.a)∧w'.cell? ⟨b,o+i*5+2,none⟩=some (.i x.b)∧w'.cell? ⟨b,o+i*5+3,none⟩=some (.i x.c)∧w'.cell? ⟨b,o+i*5+4,none⟩=some (.i x.d)∧w'.cell? ⟨l,m+i*5,none⟩=some (.string y.s)∧w'.cell? ⟨l,m+i*5+1,none⟩=some (.i y.a)∧w'.cell? ⟨l,m+i*5+2,none⟩=some (.i y.b)∧w'.cell? ⟨l,m+i*5+3,none⟩=some (.i y.c)∧w'.cell? ⟨l,m+i*5+4,none⟩=some (.i y.d)) (by kernel_rfl) ?_ (fun hHeld=>?_)
  case refine_1=>exact⟨g.o.c 0 _ rfl,g.o.c 1 _ rfl,g.o.c 2 _ rfl,g.o.c 3 _ rfl,g.o.c 4 _ rfl,j.o.c 0 _ rfl,j.o.c 1 _ rfl,j.o.c 2 _ rfl,j.o.c 3 _ rfl,j.o.c 4 _ rfl⟩
  obtain⟨V,z⟩:=eX (wr.drew);rw[←z]at n g j v hHeld ⊢;clear z;refine tkW 0 ?_;refine tkW 1 ?_;refine tkW 2 ?_;refine tkW 3 ?_;refine tkW 4 ?_;refine tkW 5 ?_;refine tkW 6 ?_;refine tkW 7 ?_;refine tkW 8 ?_;refine wpAnyH_done (by kernel_rfl) ?_ _;have W:IntKind.i64.wrap ((i:Int)+1)=(i:Int)+1:=(by rw[IntKind.wrap_i64];omega);go_wp2
  go_roundg (len-(i+1))
  case measure=>omega
  case rel=>exact⟨i+1,by go_num,by omega,rfl,v⟩
 have H:decide ((i:Int)<(len:Int))=false:=dF;have I:decide (i<len)=false:=decide_eq_false hlt;go_wp2;go_ret;exact⟨rfl,k⟩
theorem tyq_el(x y:EqN)(w:World)(hx:InQ w x)(hy:InQ w y)(he:x.pl=y.pl):Calls Tryz.prog 31 #[x.val,y.val] w (Ret (.b true) w):=by
 have HX:=hI hx;have HY:=hI hy;injection he with e1 e2;have hc1:=(str_iff rfl).2 e1;have hc1':=str_beq _ _ _ hc1;have HT:=hI e2;clear hx hy e1 e2
 go_in
 go_upto_region 1 with(fail);generalize hw2:World.alloc _ _=w2;obtain⟨HW,E1,E2⟩:=gn2 hw2;clear hw2;have p:=E1.o.cell;have q:=E2.o.cell;go_wp2_with fail;refine(show Calls Tryz.prog 28 #[.agg #[.i x.v.h.kind,.i x.v.h.n,.i x.v.h.d,.string x.v.h.name,.i x.v.h.k,.l x.v.A x.v.len x.v.cap],.agg #[.i y.v.h.kind,.i y.v.h.n,.i y.v.h.d,.string y.v.h.name,.i y.v.h.k,.l y.v.A y.v.len y.v.cap]] w2 _ from(equal_any _ x.T (Nat.le_refl _) y.T x.v y.v w2 (HX.o.e.belowW HW.o) (HY.o.e.belowW HW.o)).mono fun _ _ h=>h.yes HT.o).mono ?_;rintro e w3 ⟨rfl,HB3⟩;clear p q;have p:=(E1.o.belowW HB3.o).cell;have q:=(E2.o.belowW HB3.o).cell;go_wp2;go_ret;exact⟨rfl,(HW.o.t HB3)⟩
theorem tyq_eqf(A:Option Addr)(len cap:Nat)(zs:List EqN)(A2:Option Addr)(len2 cap2:Nat)(ys:List EqN)(w:World)(hx:InL 7 EqN.cells InQ w A len cap zs)(hy:InL 7 EqN.cells InQ w A2 len2 cap2 ys)(he:zs.map EqN.pl=ys.map EqN.pl)
 (ih:∀(x y:EqN) (w':World),Below w.heap.size w w'→InQ w' x→InQ w' y→x.pl=y.pl→Calls Tryz.prog 31 #[x.val,y.val] w' (Ret (.b true) w')):
 Calls Tryz.prog 35 #[.l A len cap,.l A2 len2 cap2,.func (.func 31) #[] #[]] w (Ret (.b true) w):=by
 have M:=hI hx;have N:=hI hy;have O:=hI ih;have P:=hI he
 obtain rfl:len=len2:=by have h:=congrArg List.length he;rw[List.length_map,List.length_map,hx.hl,hy.hl]at h;exact h
 have af:len≤9223372036854775807:=(by have h1:=hx.hc;have Q:=hx.hm;unfold maxLen at Q;omega);clear hx hy he ih;have d1:((len:Int)!=(len:Int))=false:=(by simp)
 go_in
 go_wp2
 go_loopg [17] len (fun gk d wr=>∃i:Nat,d= .i (i:Nat)∧i≤len∧gk=len-i∧Hid (Below w.heap.size w wr))
 case atStart=>exact⟨0,rfl,Nat.zero_le _,rfl,hI (Below.refl _ _)⟩
 obtain⟨i,rfl,hi,rfl,a⟩:=hrel;have R:=a.o.size
 by_cases hlt:i<len
 ·
  obtain⟨b,o,x,S,C,hx,D⟩:=InQ.len (InQ.list M.o a.o) i hlt;obtain⟨b2,o2,y,T,E,hy,F⟩:=InQ.len (InQ.list N.o a.o) i hlt;subst S T;have U:decide ((i:Int)<(len:Int))=true:=dT;have V:decide (i<len)=true:=decide_eq_true hlt;have al:0≤(i:Int)∧(i:Int)<(len:Int):=(by omega);have W:=hI (map_at P.o C E);have X:=hI hx;have Y:=hI hy;have Z:=hI F;obtain⟨c,g,j,l,m,r,u,z⟩:=EqN.cells_at D;clear hx hy F D C E;go_upto_region 6 with(fail);obtain⟨w1,G,H,E1⟩:=aX wr 59 #[.string x.s,.i x.v.h.kind,.i x.v.h.n,.i x.v.h.d,.string x.v.h.name,.i x.v.h.k,.l x.v.A x.v.len x.v.cap];rw[←G];clear G c g j l m r u z;obtain⟨c,g,j,l,m,r,u,z⟩:=EqN.cells_at (Z.o.belowW H.o);go_upto_region 7 with(fail);obtain⟨w2,I,J,E2⟩:=aX w1 59 #[.string y.s,.i y.v.h.kind,.i y.v.h.n,.i y.v.h.d,.string y.v.h.name,.i y.v.h.k,.l y.v.A y.v.len y.v.cap];rw[←I];clear I c g j l m r u z;have B:=H.o.t J;have L:=hI (a.o.trans (B.o.mono R));have p:=(E1.o.belowW J.o).cell;have q:=E2.o.cell;go_wp2_with fail;refine(O.o x y w2 L.o (X.o.belowW B.o) (Y.o.belowW B.o) W.o).mono ?_;rintro e w3 ⟨rfl,ae⟩;have e1:IntKind.i64.wrap ((i:Int)+1)=(i:Int)+1:=(by rw[IntKind.wrap_i64];omega);go_wp2
  go_roundg (len-(i+1))
  case measure=>omega
  case rel=>exact⟨i+1,by go_num,by omega,rfl,L.o.t ae⟩
 have U:decide ((i:Int)<(len:Int))=false:=dF;have V:decide (i<len)=false:=decide_eq_false hlt;go_wp2;go_ret;exact⟨rfl,a⟩
theorem tyr_el(x y:EqN)(w:World)(hx:InQ w x)(hy:InQ w y)(he:x.pl=y.pl):Calls Tryz.prog 27 #[x.val,y.val] w (Ret (.b true) w):=by
 have HX:=hI hx;have HY:=hI hy;injection he with e1 e2;have hc1:=(str_iff rfl).2 e1;have hc1':=str_beq _ _ _ hc1;have HT:=hI e2;clear hx hy e1 e2
 go_in
 go_upto_region 1 with(fail);generalize hw2:World.alloc _ _=w2;obtain⟨HW,E1,E2⟩:=gn2 hw2;clear hw2;have p:=E1.o.cell;have q:=E2.o.cell;go_wp2_with fail;refine(show Calls Tryz.prog 28 #[.agg #[.i x.v.h.kind,.i x.v.h.n,.i x.v.h.d,.string x.v.h.name,.i x.v.h.k,.l x.v.A x.v.len x.v.cap],.agg #[.i y.v.h.kind,.i y.v.h.n,.i y.v.h.d,.string y.v.h.name,.i y.v.h.k,.l y.v.A y.v.len y.v.cap]] w2 _ from(equal_any _ x.T (Nat.le_refl _) y.T x.v y.v w2 (HX.o.e.belowW HW.o) (HY.o.e.belowW HW.o)).mono fun _ _ h=>h.yes HT.o).mono ?_;rintro e w3 ⟨rfl,HB3⟩;clear p q;have p:=(E1.o.belowW HB3.o).cell;have q:=(E2.o.belowW HB3.o).cell;go_wp2;go_ret;exact⟨rfl,(HW.o.t HB3)⟩
theorem tyr_eqf(A:Option Addr)(len cap:Nat)(zs:List EqN)(A2:Option Addr)(len2 cap2:Nat)(ys:List EqN)(w:World)(hx:InL 7 EqN.cells InQ w A len cap zs)(hy:InL 7 EqN.cells InQ w A2 len2 cap2 ys)(he:zs.map EqN.pl=ys.map EqN.pl)
 (ih:∀(x y:EqN) (w':World),Below w.heap.size w w'→InQ w' x→InQ w' y→x.pl=y.pl→Calls Tryz.prog 27 #[x.val,y.val] w' (Ret (.b true) w')):
 Calls Tryz.prog 30 #[.l A len cap,.l A2 len2 cap2,.func (.func 27) #[] #[]] w (Ret (.b true) w):=by
 have M:=hI hx;have N:=hI hy;have O:=hI ih;have P:=hI he
 obtain rfl:len=len2:=by have h:=congrArg List.length he;rw[List.length_map,List.length_map,hx.hl,hy.hl]at h;exact h
 have af:len≤9223372036854775807:=(by have h1:=hx.hc;have Q:=hx.hm;unfold maxLen at Q;omega);clear hx hy he ih;have d1:((len:Int)!=(len:Int))=false:=(by simp)
 go_in
 go_wp2
 go_loopg [17] len (fun gk d wr=>∃i:Nat,d= .i (i:Nat)∧i≤len∧gk=len-i∧Hid (Below w.heap.size w wr))
 case atStart=>exact⟨0,rfl,Nat.zero_le _,rfl,hI (Below.refl _ _)⟩
 obtain⟨i,rfl,hi,rfl,a⟩:=hrel;have R:=a.o.size
 by_cases hlt:i<len
 ·
  obtain⟨b,o,x,S,C,hx,D⟩:=InQ.len (InQ.list M.o a.o) i hlt;obtain⟨b2,o2,y,T,E,hy,F⟩:=InQ.len (InQ.list N.o a.o) i hlt;subst S T;have U:decide ((i:Int)<(len:Int))=true:=dT;have V:decide (i<len)=true:=decide_eq_true hlt;have al:0≤(i:Int)∧(i:Int)<(len:Int):=(by omega);have W:=hI (map_at P.o C E);have X:=hI hx;have Y:=hI hy;have Z:=hI F;obtain⟨c,g,j,l,m,r,u,z⟩:=EqN.cells_at D;clear hx hy F D C E;go_upto_region 6 with(fail);obtain⟨w1,G,H,E1⟩:=aX wr 89 #[.string x.s,.i x.v.h.kind,.i x.v.h.n,.i x.v.h.d,.string x.v.h.name,.i x.v.h.k,.l x.v.A x.v.len x.v.cap];rw[←G];clear G c g j l m r u z;obtain⟨c,g,j,l,m,r,u,z⟩:=EqN.cells_at (Z.o.belowW H.o);go_upto_region 7 with(fail);obtain⟨w2,I,J,E2⟩:=aX w1 89 #[.string y.s,.i y.v.h.kind,.i y.v.h.n,.i y.v.h.d,.string y.v.h.name,.i y.v.h.k,.l y.v.A y.v.len y.v.cap];rw[←I];clear I c g j l m r u z;have B:=H.o.t J;have L:=hI (a.o.trans (B.o.mono R));have p:=(E1.o.belowW J.o).cell;have q:=E2.o.cell;go_wp2_with fail;refine(O.o x y w2 L.o (X.o.belowW B.o) (Y.o.belowW B.o) W.o).mono ?_;rintro e w3 ⟨rfl,ae⟩;have e1:IntKind.i64.wrap ((i:Int)+1)=(i:Int)+1:=(by rw[IntKind.wrap_i64];omega);go_wp2
  go_roundg (len-(i+1))
  case measure=>omega
  case rel=>exact⟨i+1,by go_num,by omega,rfl,L.o.t ae⟩
 have U:decide ((i:Int)<(len:Int))=false:=dF;have V:decide (i<len)=false:=decide_eq_false hlt;go_wp2;go_ret;exact⟨rfl,a⟩
theorem tyg_el(pr:Nat)(x y:EdN)(w:World)(hx:InG w x)(hy:InG w y)(hp:Blk w pr 91 #[.func (.func 27) #[] #[]])(he:x.pl=y.pl):Calls Tryz.prog 29 #[x.val,y.val,.p pr] w (Ret (.b true) w):=by
 have j:=hI hx;have l:=hI hy;injection he with e1 e2 e3 e4;have F:(x.dir==y.dir)=true:=(by simp[e2]);have B:=(str_iff rfl).2 e3;have G:=str_beq _ _ _ B;have C:=hI e1;have D:=hI e4;have E:=hI hp;clear hp hx hy e1 e2 e3 e4
 go_in
 go_upto_region 1 with(fail);generalize hw2:World.alloc _ _=w2;obtain⟨a,m,o⟩:=gn2 hw2;clear hw2;have r:=E.o.b9 a;have p:=m.o.cell;have q:=o.o.cell;obtain⟨b,_⟩:=r.o.all1;go_wp2_with fail;refine(show Calls Tryz.prog 28 #[.agg #[.i x.v.h.kind,.i x.v.h.n,.i x.v.h.d,.string x.v.h.name,.i x.v.h.k,.l x.v.A x.v.len x.v.cap],.agg #[.i y.v.h.kind,.i y.v.h.n,.i y.v.h.d,.string y.v.h.name,.i y.v.h.k,.l y.v.A y.v.len y.v.cap]] w2 _ from(equal_any _ x.T (Nat.le_refl _) y.T x.v y.v w2 (j.o.e.belowW a.o) (l.o.e.belowW a.o)).mono fun _ _ h=>h.yes C.o).mono ?_;rintro e w3 ⟨rfl,c⟩;have i:=a.o.t c;have s:=m.o.b9 c;have u:=o.o.b9 c;have z:=r.o.b9 c;clear p q b;have p:=s.o.cell;have q:=u.o.cell;obtain⟨b,_⟩:=z.o.all1;go_wp2_with fail;refine(tyr_eqf x.A x.len x.cap x.rs y.A y.len y.cap y.rs w3 (InQ.list j.o.hr i.o) (InQ.list l.o.hr i.o) D.o (fun x y w' _ hx hy he=>tyr_el x y w' hx hy he)).mono ?_;rintro e w4 ⟨rfl,g⟩;clear p q b;have p:=(s.o.belowW g.o).cell;have q:=(u.o.belowW g.o).cell;obtain⟨b,_⟩:=(z.o.belowW g.o).all1;go_wp2;go_ret;exact⟨rfl,(i.o.t g)⟩
theorem tyg_eqf(pr:Nat)(A:Option Addr)(len cap:Nat)(zs:List EdN)(A2:Option Addr)(len2 cap2:Nat)(ys:List EdN)(w:World)(hx:InL 9 EdN.cells InG w A len cap zs)(hy:InL 9 EdN.cells InG w A2 len2 cap2 ys)(he:zs.map EdN.pl=ys.map EdN.pl)
 (ih:∀(x y:EdN) (w':World),Below w.heap.size w w'→InG w' x→InG w' y→x.pl=y.pl→Calls Tryz.prog 29 #[x.val,y.val,.p pr] w' (Ret (.b true) w')):
 Calls Tryz.prog 36 #[.l A len cap,.l A2 len2 cap2,.func (.func 29) #[] #[.p pr]] w (Ret (.b true) w):=by
 have N:=hI hx;have O:=hI hy;have P:=hI ih;have Q:=hI he
 obtain rfl:len=len2:=by have h:=congrArg List.length he;rw[List.length_map,List.length_map,hx.hl,hy.hl]at h;exact h
 have ag:len≤9223372036854775807:=(by have h1:=hx.hc;have R:=hx.hm;unfold maxLen at R;omega);clear hx hy he ih;have d1:((len:Int)!=(len:Int))=false:=(by simp)
 go_in
 go_wp2
 go_loopg [17] len (fun gk d wr=>∃i:Nat,d= .i (i:Nat)∧i≤len∧gk=len-i∧Hid (Below w.heap.size w wr))
 case atStart=>exact⟨0,rfl,Nat.zero_le _,rfl,hI (Below.refl _ _)⟩
 obtain⟨i,rfl,hi,rfl,a⟩:=hrel;have S:=a.o.size
 by_cases hlt:i<len
 ·
  obtain⟨b,o,x,T,D,hx,E⟩:=InG.len (InG.list N.o a.o) i hlt;obtain⟨b2,o2,y,U,F,hy,G⟩:=InG.len (InG.list O.o a.o) i hlt;subst T U;have V:decide ((i:Int)<(len:Int))=true:=dT;have W:decide (i<len)=true:=decide_eq_true hlt;have am:0≤(i:Int)∧(i:Int)<(len:Int):=(by omega);have X:=hI (map_at Q.o D F);have Y:=hI hx;have Z:=hI hy;have EY:=hI G;obtain⟨c,g,j,l,m,r,s,u,z,B⟩:=EdN.cells_at E;clear hx hy G E D F;go_upto_region 6 with(fail);obtain⟨w1,H,I,E1⟩:=aX wr 94 #[.i x.v.h.kind,.i x.v.h.n,.i x.v.h.d,.string x.v.h.name,.i x.v.h.k,.l x.v.A x.v.len x.v.cap,.i x.dir,.string x.tn,.l x.A x.len x.cap];rw[←H];clear H c g j l m r s u z B;obtain⟨c,g,j,l,m,r,s,u,z,B⟩:=EdN.cells_at (EY.o.belowW I.o);go_upto_region 7 with(fail);obtain⟨w2,J,L,E2⟩:=aX w1 94 #[.i y.v.h.kind,.i y.v.h.n,.i y.v.h.d,.string y.v.h.name,.i y.v.h.k,.l y.v.A y.v.len y.v.cap,.i y.dir,.string y.tn,.l y.A y.len y.cap];rw[←J];clear J c g j l m r s u z B;have C:=I.o.t L;have M:=hI (a.o.trans (C.o.mono S));have p:=(E1.o.belowW L.o).cell;have q:=E2.o.cell;go_wp2_with fail;refine(P.o x y w2 M.o (Y.o.belowW C.o) (Z.o.belowW C.o) X.o).mono ?_;rintro e w3 ⟨rfl,af⟩;have e1:IntKind.i64.wrap ((i:Int)+1)=(i:Int)+1:=(by rw[IntKind.wrap_i64];omega);go_wp2
  go_roundg (len-(i+1))
  case measure=>omega
  case rel=>exact⟨i+1,by go_num,by omega,rfl,M.o.t af⟩
 have V:decide ((i:Int)<(len:Int))=false:=dF;have W:decide (i<len)=false:=decide_eq_false hlt;go_wp2;go_ret;exact⟨rfl,a⟩
theorem tym_el(pr:Nat)(pq:Nat)(ps:Nat)(x y:MdN)(w:World)(hx:InM w x)(hy:InM w y)(hp:Blk w pr 91 #[.func (.func 27) #[] #[]])(hq:Blk w pq 97 #[.func (.func 31) #[] #[]])(hs:Blk w ps 96 #[.func (.func 29) #[] #[.p pr]])(he:x.pl=y.pl):Calls Tryz.prog 34 #[x.val,y.val,.p pq,.p ps] w (Ret (.b true) w):=by
 have r:=hI hx;have s:=hI hy;injection he with e1 e2 e3;have I:=(str_iff rfl).2 e1;have P:=str_beq _ _ _ I;have J:=hI e2;have L:=hI e3;have M:=hI hp;have N:=hI hq;have O:=hI hs;clear hp hq hs hx hy e1 e2 e3
 go_in
 go_upto_region 1 with(fail);generalize hw2:World.alloc _ _=w2;obtain⟨a,u,v⟩:=gn2 hw2;clear hw2;have z:=M.o.b9 a;have C:=N.o.b9 a;have D:=O.o.b9 a;have p:=u.o.cell;have q:=v.o.cell;obtain⟨i,_⟩:=C.o.all1;obtain⟨j,_⟩:=D.o.all1;obtain⟨k,_⟩:=z.o.all1;go_wp2_with fail;refine(tyq_eqf x.A x.n x.c x.fl y.A y.n y.c y.fl w2 (InQ.list r.o.hf a.o) (InQ.list s.o.hf a.o) J.o (fun x y w' _ hx hy he=>tyq_el x y w' hx hy he)).mono ?_;rintro e w3 ⟨rfl,b⟩;have l:=a.o.t b;have E:=u.o.b9 b;have F:=v.o.b9 b;have G:=C.o.b9 b;have H:=D.o.b9 b;have o:=z.o.b9 b;clear p q i j k;have p:=E.o.cell;have q:=F.o.cell;obtain⟨i,_⟩:=G.o.all1;obtain⟨j,_⟩:=H.o.all1;obtain⟨k,_⟩:=o.o.all1;go_wp2_with fail;refine(tyg_eqf pr x.B x.m x.d x.ed y.B y.m y.d y.ed w3 (InG.list r.o.he l.o) (InG.list s.o.he l.o) L.o (fun x y w' hb hx hy he=>tyg_el pr x y w' hx hy (o.o.belowW hb) he)).mono ?_;rintro e w4 ⟨rfl,g⟩;clear p q i j k;have p:=(E.o.belowW g.o).cell;have q:=(F.o.belowW g.o).cell;obtain⟨i,_⟩:=(G.o.belowW g.o).all1;obtain⟨j,_⟩:=(H.o.belowW g.o).all1;obtain⟨k,_⟩:=(o.o.belowW g.o).all1;go_wp2;go_ret;exact⟨rfl,(l.o.t g)⟩
theorem tym_eqf(pq:Nat)(ps:Nat)(A:Option Addr)(len cap:Nat)(zs:List MdN)(A2:Option Addr)(len2 cap2:Nat)(ys:List MdN)(w:World)(hx:InL 3 MdN.cells InM w A len cap zs)(hy:InL 3 MdN.cells InM w A2 len2 cap2 ys)(he:zs.map MdN.pl=ys.map MdN.pl)
 (ih:∀(x y:MdN) (w':World),Below w.heap.size w w'→InM w' x→InM w' y→x.pl=y.pl→Calls Tryz.prog 34 #[x.val,y.val,.p pq,.p ps] w' (Ret (.b true) w')):
 Calls Tryz.prog 33 #[.l A len cap,.l A2 len2 cap2,.func (.func 34) #[] #[.p pq,.p ps]] w (Ret (.b true) w):=by
 have I:=hI hx;have J:=hI hy;have L:=hI ih;have M:=hI he
 obtain rfl:len=len2:=by have h:=congrArg List.length he;rw[List.length_map,List.length_map,hx.hl,hy.hl]at h;exact h
 have ac:len≤9223372036854775807:=(by have h1:=hx.hc;have N:=hx.hm;unfold maxLen at N;omega);clear hx hy he ih;have d1:((len:Int)!=(len:Int))=false:=(by simp)
 go_in
 go_wp2
 go_loopg [17] len (fun gk d wr=>∃i:Nat,d= .i (i:Nat)∧i≤len∧gk=len-i∧Hid (Below w.heap.size w wr))
 case atStart=>exact⟨0,rfl,Nat.zero_le _,rfl,hI (Below.refl _ _)⟩
 obtain⟨i,rfl,hi,rfl,a⟩:=hrel;have O:=a.o.size
 by_cases hlt:i<len
 ·
  obtain⟨b,o,x,P,u,hx,v⟩:=InM.len (InM.list I.o a.o) i hlt;obtain⟨b2,o2,y,Q,z,hy,C⟩:=InM.len (InM.list J.o a.o) i hlt;subst P Q;have R:decide ((i:Int)<(len:Int))=true:=dT;have S:decide (i<len)=true:=decide_eq_true hlt;have ai:0≤(i:Int)∧(i:Int)<(len:Int):=(by omega);have T:=hI (map_at M.o u z);have U:=hI hx;have V:=hI hy;have W:=hI C;obtain⟨g,j,k,l⟩:=MdN.cells_at v;clear hx hy C v u z;go_upto_region 6 with(fail);obtain⟨X,D,E,Y⟩:=aX wr 50 #[.string x.s,.l x.A x.n x.c,.l x.B x.m x.d];rw[←D];clear D g j k l;obtain⟨g,j,k,l⟩:=MdN.cells_at (W.o.belowW E.o);go_upto_region 7 with(fail);obtain⟨Z,F,G,E2⟩:=aX X 50 #[.string y.s,.l y.A y.n y.c,.l y.B y.m y.d];rw[←F];clear F g j k l;have r:=E.o.t G;have H:=hI (a.o.trans (r.o.mono O));have p:=(Y.o.belowW G.o).cell;have q:=E2.o.cell;go_wp2_with fail;refine(L.o x y Z H.o (U.o.belowW r.o) (V.o.belowW r.o) T.o).mono ?_;rintro e w3 ⟨rfl,ab⟩;have e1:IntKind.i64.wrap ((i:Int)+1)=(i:Int)+1:=(by rw[IntKind.wrap_i64];omega);go_wp2
  go_roundg (len-(i+1))
  case measure=>omega
  case rel=>exact⟨i+1,by go_num,by omega,rfl,H.o.t ab⟩
 have R:decide ((i:Int)<(len:Int))=false:=dF;have S:decide (i<len)=false:=decide_eq_false hlt;go_wp2;go_ret;exact⟨rfl,a⟩
theorem tsame_yes(x y:PbN)(w:World)(hx:InP w x)(hy:InP w y)(ox:x.ok=true)(oy:y.ok=true)(he:x.pl=y.pl):Calls Tryz.prog 16 #[x.val,y.val] w (Ret (.b true) w):=by
 have s:=hI hx;have v:=hI hy;injection he with e1 e2 e3 e4;injection e4 with e4 e5;have aw:((x.t==y.t)&&(x.u==y.u))=true:=(by simp[e4,e5]);have H1:=hI e1;have H2:=hI e2;have H3:=hI e3;have ar:=hI ox;have au:=hI oy;have ax:=run_eq_rat
 have ay:∀(fn:Fn) (first cap:Array Value) (w:World),(Instr.makeFunc fn first cap).run Tryz.prog w= .ok (.func fn first cap) w:=fun _ _ _ _=>rfl
 clear hx hy ox oy e1 e2 e3 e4 e5
 go_in
 go_upto_region 1 with(fail);generalize hw2:World.alloc _ _=w2;obtain⟨U,V,W⟩:=gn2 hw2;clear hw2;have p:=V.o.cell;have q:=W.o.cell;go_wp2_with fail;refine(show Calls Tryz.prog 26 #[.agg #[.l x.A x.n x.c,.l x.B x.m x.d,.l x.C x.k x.e,.i x.t,.i x.u]] w2 (Ret (.b true) w2)from(tproblem_p x w2 (s.o.belowW U.o)).mono fun e w' h=>⟨h.1.trans (by rw[ar.o]),h.2⟩).mono ?_;rintro e w21 ⟨rfl,F⟩;have X:=U.o.t F;have Y:=V.o.b9 F;have Z:=W.o.b9 F;clear p q;have p:=Y.o.cell;have q:=Z.o.cell;go_wp2_with fail;refine(show Calls Tryz.prog 26 #[.agg #[.l y.A y.n y.c,.l y.B y.m y.d,.l y.C y.k y.e,.i y.t,.i y.u]] w21 (Ret (.b true) w21)from(tproblem_p y w21 (v.o.belowW X.o)).mono fun e w' h=>⟨h.1.trans (by rw[au.o]),h.2⟩).mono ?_;rintro e w22 ⟨rfl,G⟩;have av:=X.o.t G;have aa:=Y.o.b9 G;have ab:=Z.o.b9 G;clear p q;have p:=aa.o.cell;have q:=ab.o.cell;go_upto_region 6 with(fail);obtain⟨H,I⟩:=eX (w22.heap.size);obtain⟨a,J⟩:=eX (H);obtain⟨z,L⟩:=eX (H+1);obtain⟨D,M⟩:=eX (H+1+1);have E:w22.heap.size=a∧(w22.alloc (Obj.cells #[.func (.func 27) #[] #[]] 91)).heap.size=z∧((w22.alloc (Obj.cells #[.func (.func 27) #[] #[]] 91)).alloc (Obj.cells #[.func (.func 29) #[] #[.p a]] 96)).heap.size=D:=(by refine⟨?_,?_,?_⟩<;>simp only[World.size_alloc,←I,J,M,L])
 try rw[←I]
 try simp only[←M]
 try simp only[←L]
 try simp only[←J]
 obtain⟨w9,b⟩:=eX ((((w22.alloc (Obj.cells #[.func (.func 27) #[] #[]] 91)).alloc (Obj.cells #[.func (.func 29) #[] #[.p a]] 96)).alloc (Obj.cells #[.func (.func 31) #[] #[]] 97)));have N:=hI (show Below w22.heap.size w22 w9 by rw[b];exact((below_box _ _).trans ((below_box _ _).mono (by simp))).trans ((below_box _ _).mono (by simp;omega)));have ac:=hI (show Blk w9 a 91 #[.func (.func 27) #[] #[]]by rw[b,←E.1];exact((Blk.new w22 91 #[.func (.func 27) #[] #[]]).belowW (below_box _ _)).belowW (below_box _ _));have ad:=hI (show Blk w9 z 96 #[.func (.func 29) #[] #[.p a]]by rw[b,←E.2.1];exact(Blk.new (w22.alloc (Obj.cells #[.func (.func 27) #[] #[]] 91)) 96 #[.func (.func 29) #[] #[.p a]]).belowW (below_box _ _));have ae:=hI (show Blk w9 D 97 #[.func (.func 31) #[] #[]]by rw[b,←E.2.2];exact Blk.new ((w22.alloc (Obj.cells #[.func (.func 27) #[] #[]] 91)).alloc (Obj.cells #[.func (.func 29) #[] #[.p a]] 96)) 97 #[.func (.func 31) #[] #[]]);rw[←b];have O:=av.o.t N;have af:=aa.o.b9 N;have ag:=ab.o.b9 N;clear b E J L M I p q;have p:=af.o.cell;have q:=ag.o.cell;obtain⟨g,_⟩:=ac.o.all1;obtain⟨i,_⟩:=ae.o.all1;obtain⟨j,_⟩:=ad.o.all1;go_wp2_with fail;refine(eqd_yes x.A x.n x.c x.st y.A y.n y.c y.st w9 (InD.list s.o.hs O.o) (InD.list v.o.hs O.o) H1.o).mono ?_;rintro e w23 ⟨rfl,l⟩;have P:=O.o.t l;have ah:=af.o.b9 l;have ai:=ag.o.b9 l;have aj:=ac.o.b9 l;have ak:=ae.o.b9 l;have al:=ad.o.b9 l;clear p q g i j;have p:=ah.o.cell;have q:=ai.o.cell;obtain⟨g,_⟩:=aj.o.all1;obtain⟨i,_⟩:=ak.o.all1;obtain⟨j,_⟩:=al.o.all1;go_wp2_with fail;refine(eqd_yes x.B x.m x.d x.pa y.B y.m y.d y.pa w23 (InD.list s.o.hp P.o) (InD.list v.o.hp P.o) H2.o).mono ?_;rintro e w24 ⟨rfl,o⟩;have Q:=P.o.t o;have am:=ah.o.b9 o;have an:=ai.o.b9 o;have R:=aj.o.b9 o;have S:=ak.o.b9 o;have T:=al.o.b9 o;clear p q g i j;have p:=am.o.cell;have q:=an.o.cell;obtain⟨g,_⟩:=R.o.all1;obtain⟨i,_⟩:=S.o.all1;obtain⟨j,_⟩:=T.o.all1;go_wp2_with fail;refine(tym_eqf D z x.C x.k x.e x.ms y.C y.k y.e y.ms w24 (InM.list s.o.hm Q.o) (InM.list v.o.hm Q.o) H3.o (fun x y w' hb hx hy he=>tym_el a D z x y w' hx hy (R.o.belowW hb) (S.o.belowW hb) (T.o.belowW hb) he)).mono ?_;rintro e w25 ⟨rfl,r⟩;clear p q g i j;have p:=(am.o.belowW r.o).cell;have q:=(an.o.belowW r.o).cell;obtain⟨g,_⟩:=(R.o.belowW r.o).all1;obtain⟨i,_⟩:=(S.o.belowW r.o).all1;obtain⟨j,_⟩:=(T.o.belowW r.o).all1;go_wp2;go_ret;exact⟨rfl,(Q.o.t r)⟩
