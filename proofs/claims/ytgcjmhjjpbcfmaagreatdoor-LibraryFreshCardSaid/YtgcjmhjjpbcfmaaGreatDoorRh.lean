import Derived.Test.YtgcjmhjjpbcfmaaGreatDoorRf
set_option maxHeartbeats 4000000
set_option maxRecDepth 100000
namespace Go.Fl.Pa
open Go.Lib Go.Fl.Lx Go.Fl.Fm Go.Fl.Rt
open Go.Proofs.YtgcjmhjjpbcfmaaGreatDoor (nameP okE)
def DcP.ok(d:DcP):Bool:=nameP d.s&&(vB d.r.lo.1 d.r.lo.2&&vB d.r.hi.1 d.r.hi.2)
def EqP.ok(q:EqP):Bool:=nameP q.s&&okE q.T
def EdP.ok(x:EdP):Bool:=okE x.T&&(((x.dir==1)||(x.dir==2))&&(nameP x.tn&&(decide (x.rs.length≤4)&&x.rs.all EqP.ok)))
def MdP.ok(m:MdP):Bool:=nameP m.s&&(decide (m.fl.length≤4)&&(decide (m.ed.length≤4)&&(m.fl.all EqP.ok&&m.ed.all EdP.ok)))
def PbP.ok(p:PbP):Bool:=(decide (1≤p.st.length)&&decide (p.st.length≤4)&&decide (p.pa.length≤4)&&decide (1≤p.ms.length)&&decide (p.ms.length≤8))&&(p.st.all DcP.ok&&(p.pa.all DcP.ok&&(p.ms.all MdP.ok&&vB p.tm.1 p.tm.2)))
end Go.Fl.Pa
namespace Go.Proofs.YtgcjmhjjpbcfmaaGreatDoor
open Go.RowKit Go.Fl Go.Fl.Nm Go.Fl.Dy Go.Fl.Rt Go.Fl.Fm
theorem decl_p(x:DcN)(w:World)(hx:InD w x):Calls Tryz.prog 59 #[x.val] w (RetB (.b x.ok) w):=by
 have g:=hI hx.r;have E:x.s.size≤maxLen:=hx.hs
 obtain⟨n,i⟩:∃n,nameP x.s.data.toList=n:=⟨_,rfl⟩
 obtain⟨u,j⟩:∃n,vB x.a x.b=n:=⟨_,rfl⟩
 obtain⟨v,k⟩:∃n,vB x.c x.d=n:=⟨_,rfl⟩
 have l:=hI (show x.ok=(n&&(u&&v))by unfold DcN.ok;rw[i,j,k]);have F:=hI i;have G:=hI j;have H:=hI k;clear hx i j k;simp only[DcN.val]
 go_in
 go_upto_region 1 with(fail);generalize hw1:World.alloc _ _=w1;obtain⟨m,o⟩:=gn1 hw1;clear hw1;obtain⟨p,q,y,z,B⟩:=o.o.cs5;go_wp2_with fail;refine(name_any x.s w1 E).mono ?_;rw[F.o];rintro e w2 ⟨rfl,rfl⟩
 cases n with
 | false=>
  go_wp2;go_ret
  exact⟨ret_bool (by rw[l.o];rfl),m⟩
 | true=>
  go_wp2_with fail;refine(valid_q x.a x.b w1 g.o.a1 g.o.a2 g.o.b1 g.o.b2).mono ?_;rw[G.o];rintro e w3 ⟨rfl,C⟩;have D:=m.o.t C;clear p q y z B;obtain⟨p,q,y,z,B⟩:=(o.o.belowW C.o).cs5
  cases u with
  | false=>
   go_wp2;go_ret
   exact⟨ret_bool (by rw[l.o];rfl),D⟩
  | true=>
   go_wp2_with fail;refine(valid_q x.c x.d w3 g.o.c1 g.o.c2 g.o.d1 g.o.d2).mono ?_;rw[H.o];rintro e w4 ⟨rfl,I⟩;go_wp2;go_ret;exact⟨ret_bool (by rw[l.o];rfl),D.o.t I⟩
theorem eq_p(x:EqN)(w:World)(hx:InQ w x):Calls Tryz.prog 107 #[x.val] w (RetB (.b x.ok) w):=by
 have HX:=hI hx;have hs:x.s.size≤maxLen:=hx.hs
 obtain⟨n,hn⟩:∃n,nameP x.s.data.toList=n:=⟨_,rfl⟩
 obtain⟨u,hu⟩:∃n,okE x.T=n:=⟨_,rfl⟩
 have HE:=hI (show x.ok=(n&&u)by unfold EqN.ok;rw[hn,hu]);have HN:=hI hn;have HU:=hI hu;clear hx hn hu;simp only[EqN.val]
 go_in
 go_upto_region 1 with(fail);generalize hw1:World.alloc _ _=w1;obtain⟨HW1,F1⟩:=gn1 hw1;clear hw1;obtain⟨pr0,pr1,pr2,pr3,pr4,pr5,pr6⟩:=F1.o.cs7;go_wp2_with fail;refine(name_any x.s w1 hs).mono ?_;rw[HN.o];rintro e w2 ⟨rfl,rfl⟩
 cases n with
 | false=>
  go_wp2;go_ret
  exact⟨ret_bool (by rw[HE.o];rfl),HW1⟩
 | true=>
  go_wp2_with fail;refine(eValid_p x.T x.v w1 (HX.o.e.go HW1.o)).mono ?_;rw[HU.o];rintro e w3 ⟨rfl,HB⟩;go_wp2;go_ret;exact⟨ret_bool (by rw[HE.o];rfl),HW1.o.t HB⟩
theorem reset_p(x:EqN)(w:World)(hx:InQ w x):Calls Tryz.prog 111 #[x.val] w (RetB (.b x.ok) w):=by
 have HX:=hI hx;have hs:x.s.size≤maxLen:=hx.hs
 obtain⟨n,hn⟩:∃n,nameP x.s.data.toList=n:=⟨_,rfl⟩
 obtain⟨u,hu⟩:∃n,okE x.T=n:=⟨_,rfl⟩
 have HE:=hI (show x.ok=(n&&u)by unfold EqN.ok;rw[hn,hu]);have HN:=hI hn;have HU:=hI hu;clear hx hn hu;simp only[EqN.val]
 go_in
 go_upto_region 1 with(fail);generalize hw1:World.alloc _ _=w1;obtain⟨HW1,F1⟩:=gn1 hw1;clear hw1;obtain⟨pr0,pr1,pr2,pr3,pr4,pr5,pr6⟩:=F1.o.cs7;go_wp2_with fail;refine(name_any x.s w1 hs).mono ?_;rw[HN.o];rintro e w2 ⟨rfl,rfl⟩
 cases n with
 | false=>
  go_wp2;go_ret
  exact⟨ret_bool (by rw[HE.o];rfl),HW1⟩
 | true=>
  go_wp2_with fail;refine(eValid_p x.T x.v w1 (HX.o.e.go HW1.o)).mono ?_;rw[HU.o];rintro e w3 ⟨rfl,HB⟩;go_wp2;go_ret;exact⟨ret_bool (by rw[HE.o];rfl),HW1.o.t HB⟩
theorem ev1_D(x:DcN)(bp:Nat)(w:World)(hx:InD w x)(hp:Blk w bp 131 #[.func (.func 59) #[] #[]]):
 Calls Tryz.prog 102 #[x.val,.p bp] w (RetB (.b (!x.ok)) w):=by
 have HX:=hI hx;have HP:=hI hp;clear hx hp;simp only[DcN.val]
 go_in
 go_upto_region 1 with(fail);generalize hw1:World.alloc _ _=w1;obtain⟨HW1,F1⟩:=gn1 hw1;clear hw1;have pp:=(HP.o.belowW HW1.o).cell;obtain⟨pr0,pr1,pr2,pr3,pr4⟩:=F1.o.cs5;go_wp2_with fail;refine(decl_p x w1 (HX.o.belowW HW1.o)).mono ?_;rintro e w5 ⟨rfl,HB⟩;go_wp2;go_ret;exact⟨rfl,HW1.o.t HB⟩
theorem idx_D(A:Option Addr)(len cap bp:Nat)(zs:List DcN)(w:World)(hx:InL 5 DcN.cells InD w A len cap zs)(hp:Blk w bp 131 #[.func (.func 59) #[] #[]]):
 Calls Tryz.prog 131 #[.l A len cap,.func (.func 102) #[] #[.p bp]] w fun e w'=>∃r:Int,e= .returned (.i r)∧Hid (decide (0≤r)= !(zs.all DcN.ok))∧Hid (Below w.heap.size w w'):=by
 have q:=hI hx;have s:=hI hp;have u:=hI hx.hl
 have F:len≤9223372036854775807:=by
  have G:=hx.hc;have v:=hx.hm;unfold maxLen at v
  omega
 clear hx hp
 go_in
 go_wp2
 go_loopg [8] len (fun k i wr=>∃j:Nat,i= .i j∧j≤len∧k=len-j∧Hid ((zs.take j).all DcN.ok=true)∧Hid (Below w.heap.size w wr))
 case atStart=>exact⟨0,rfl,by omega,by omega,by unfold Hid;simp,Below.refl _ _⟩
 obtain⟨j,rfl,H,rfl,l,a⟩:=hrel;have m:=a.o.size
 by_cases hlt:j<len
 ·
  obtain⟨b,o,x,y,d,n,p⟩:=InD.len (InD.list q.o a.o) j hlt;subst y;obtain⟨I,J,L,M,N,O⟩:=DcN.cells_at p;have z:=hI (take_snocA zs j x d);have B:=hI (mem_takeA d);have C:decide (j<len)=true:=decide_eq_true hlt;have c:=hI (ev1_D x bp wr n (s.o.belowW a.o));clear d n p
  cases hp:x.ok with
  | true=>
   rw[hp]at c;go_wp2_with fail;refine c.o.mono ?_;rintro e w2 ⟨rfl,g⟩;go_wp2
   go_roundg (len-(j+1))
   case measure=>omega
   case rel=>exact⟨j+1,by go_num,by omega,rfl,hI (by rw[z.o,List.all_append,l.o];simp[hp]),(hI (a.o.trans (g.o.mono m)))⟩
  | false=>
   rw[hp]at c;go_wp2_with fail;refine c.o.mono ?_;rintro e w2 ⟨rfl,g⟩;go_wp2;go_ret;exact⟨j,rfl,hI (by rw[List.all_eq_false.2 ⟨x,B.o,by rw[hp];simp⟩];simp),(hI (a.o.trans (g.o.mono m)))⟩
 have D:j=len:=(by omega);have E:=hI (show zs.all DcN.ok=true by have:=l.o;rwa [D,←u.o,List.take_length]at this);have C:decide (j<len)=false:=decide_eq_false hlt;go_wp2;go_ret;exact⟨-1,rfl,hI (by rw[E.o];rfl),a⟩
theorem has_D(A:Option Addr)(len cap bp:Nat)(zs:List DcN)(w:World)(hx:InL 5 DcN.cells InD w A len cap zs)(hp:Blk w bp 131 #[.func (.func 59) #[] #[]]):
 Calls Tryz.prog 101 #[.l A len cap,.func (.func 102) #[] #[.p bp]] w (RetB (.b (!(zs.all DcN.ok))) w):=by
 have KK:=hI (idx_D A len cap bp zs w hx hp);clear hx hp
 go_in
 go_wp2_with fail;refine KK.o.mono ?_;rintro e w2 ⟨r,rfl,HR,HB⟩;go_wp2;go_ret;exact⟨ret_bool HR.o,HB⟩
theorem every_D(A:Option Addr)(len cap:Nat)(zs:List DcN)(w:World)(hx:InL 5 DcN.cells InD w A len cap zs):
 Calls Tryz.prog 58 #[.l A len cap,.func (.func 59) #[] #[]] w (RetB (.b (zs.all DcN.ok)) w):=by
 have HX:=hI hx;clear hx
 go_in
 go_upto_region 1 with(fail);generalize hw1:World.alloc _ _=w1;obtain⟨HW1,F1⟩:=gn1 hw1;clear hw1;go_wp2_with fail;refine(has_D A len cap w.heap.size zs w1 (InD.list HX.o HW1.o) F1.o).mono ?_;rintro e w2 ⟨rfl,HB⟩;go_wp2;go_ret;exact⟨ret_bool (by simp),HW1.o.t HB⟩
theorem ev1_Q(x:EqN)(bp:Nat)(w:World)(hx:InQ w x)(hp:Blk w bp 176 #[.func (.func 107) #[] #[]]):
 Calls Tryz.prog 134 #[x.val,.p bp] w (RetB (.b (!x.ok)) w):=by
 have HX:=hI hx;have HP:=hI hp;clear hx hp;simp only[EqN.val]
 go_in
 go_upto_region 1 with(fail);generalize hw1:World.alloc _ _=w1;obtain⟨HW1,F1⟩:=gn1 hw1;clear hw1;have pp:=(HP.o.belowW HW1.o).cell;obtain⟨pr0,pr1,pr2,pr3,pr4,pr5,pr6⟩:=F1.o.cs7;go_wp2_with fail;refine(eq_p x w1 (HX.o.belowW HW1.o)).mono ?_;rintro e w5 ⟨rfl,HB⟩;go_wp2;go_ret;exact⟨rfl,HW1.o.t HB⟩
theorem idx_Q(A:Option Addr)(len cap bp:Nat)(zs:List EqN)(w:World)(hx:InL 7 EqN.cells InQ w A len cap zs)(hp:Blk w bp 176 #[.func (.func 107) #[] #[]]):
 Calls Tryz.prog 177 #[.l A len cap,.func (.func 134) #[] #[.p bp]] w fun e w'=>∃r:Int,e= .returned (.i r)∧Hid (decide (0≤r)= !(zs.all EqN.ok))∧Hid (Below w.heap.size w w'):=by
 have q:=hI hx;have s:=hI hp;have u:=hI hx.hl
 have F:len≤9223372036854775807:=by
  have G:=hx.hc;have v:=hx.hm;unfold maxLen at v
  omega
 clear hx hp
 go_in
 go_wp2
 go_loopg [8] len (fun k i wr=>∃j:Nat,i= .i j∧j≤len∧k=len-j∧Hid ((zs.take j).all EqN.ok=true)∧Hid (Below w.heap.size w wr))
 case atStart=>exact⟨0,rfl,by omega,by omega,by unfold Hid;simp,Below.refl _ _⟩
 obtain⟨j,rfl,H,rfl,l,a⟩:=hrel;have m:=a.o.size
 by_cases hlt:j<len
 ·
  obtain⟨b,o,x,y,d,n,p⟩:=InQ.len (InQ.list q.o a.o) j hlt;subst y;obtain⟨I,J,L,M,N,O,P,Q⟩:=EqN.cells_at p;have z:=hI (take_snocA zs j x d);have B:=hI (mem_takeA d);have C:decide (j<len)=true:=decide_eq_true hlt;have c:=hI (ev1_Q x bp wr n (s.o.belowW a.o));clear d n p
  cases hp:x.ok with
  | true=>
   rw[hp]at c;go_wp2_with fail;refine c.o.mono ?_;rintro e w2 ⟨rfl,g⟩;go_wp2
   go_roundg (len-(j+1))
   case measure=>omega
   case rel=>exact⟨j+1,by go_num,by omega,rfl,hI (by rw[z.o,List.all_append,l.o];simp[hp]),(hI (a.o.trans (g.o.mono m)))⟩
  | false=>
   rw[hp]at c;go_wp2_with fail;refine c.o.mono ?_;rintro e w2 ⟨rfl,g⟩;go_wp2;go_ret;exact⟨j,rfl,hI (by rw[List.all_eq_false.2 ⟨x,B.o,by rw[hp];simp⟩];simp),(hI (a.o.trans (g.o.mono m)))⟩
 have D:j=len:=(by omega);have E:=hI (show zs.all EqN.ok=true by have:=l.o;rwa [D,←u.o,List.take_length]at this);have C:decide (j<len)=false:=decide_eq_false hlt;go_wp2;go_ret;exact⟨-1,rfl,hI (by rw[E.o];rfl),a⟩
theorem has_Q(A:Option Addr)(len cap bp:Nat)(zs:List EqN)(w:World)(hx:InL 7 EqN.cells InQ w A len cap zs)(hp:Blk w bp 176 #[.func (.func 107) #[] #[]]):
 Calls Tryz.prog 133 #[.l A len cap,.func (.func 134) #[] #[.p bp]] w (RetB (.b (!(zs.all EqN.ok))) w):=by
 have KK:=hI (idx_Q A len cap bp zs w hx hp);clear hx hp
 go_in
 go_wp2_with fail;refine KK.o.mono ?_;rintro e w2 ⟨r,rfl,HR,HB⟩;go_wp2;go_ret;exact⟨ret_bool HR.o,HB⟩
theorem every_Q(A:Option Addr)(len cap:Nat)(zs:List EqN)(w:World)(hx:InL 7 EqN.cells InQ w A len cap zs):
 Calls Tryz.prog 106 #[.l A len cap,.func (.func 107) #[] #[]] w (RetB (.b (zs.all EqN.ok)) w):=by
 have HX:=hI hx;clear hx
 go_in
 go_upto_region 1 with(fail);generalize hw1:World.alloc _ _=w1;obtain⟨HW1,F1⟩:=gn1 hw1;clear hw1;go_wp2_with fail;refine(has_Q A len cap w.heap.size zs w1 (InQ.list HX.o HW1.o) F1.o).mono ?_;rintro e w2 ⟨rfl,HB⟩;go_wp2;go_ret;exact⟨ret_bool (by simp),HW1.o.t HB⟩
theorem ev1_R(x:EqN)(bp:Nat)(w:World)(hx:InQ w x)(hp:Blk w bp 179 #[.func (.func 111) #[] #[]]):
 Calls Tryz.prog 138 #[x.val,.p bp] w (RetB (.b (!x.ok)) w):=by
 have HX:=hI hx;have HP:=hI hp;clear hx hp;simp only[EqN.val]
 go_in
 go_upto_region 1 with(fail);generalize hw1:World.alloc _ _=w1;obtain⟨HW1,F1⟩:=gn1 hw1;clear hw1;have pp:=(HP.o.belowW HW1.o).cell;obtain⟨pr0,pr1,pr2,pr3,pr4,pr5,pr6⟩:=F1.o.cs7;go_wp2_with fail;refine(reset_p x w1 (HX.o.belowW HW1.o)).mono ?_;rintro e w5 ⟨rfl,HB⟩;go_wp2;go_ret;exact⟨rfl,HW1.o.t HB⟩
theorem idx_R(A:Option Addr)(len cap bp:Nat)(zs:List EqN)(w:World)(hx:InL 7 EqN.cells InQ w A len cap zs)(hp:Blk w bp 179 #[.func (.func 111) #[] #[]]):
 Calls Tryz.prog 179 #[.l A len cap,.func (.func 138) #[] #[.p bp]] w fun e w'=>∃r:Int,e= .returned (.i r)∧Hid (decide (0≤r)= !(zs.all EqN.ok))∧Hid (Below w.heap.size w w'):=by
 have q:=hI hx;have s:=hI hp;have u:=hI hx.hl
 have F:len≤9223372036854775807:=by
  have G:=hx.hc;have v:=hx.hm;unfold maxLen at v
  omega
 clear hx hp
 go_in
 go_wp2
 go_loopg [8] len (fun k i wr=>∃j:Nat,i= .i j∧j≤len∧k=len-j∧Hid ((zs.take j).all EqN.ok=true)∧Hid (Below w.heap.size w wr))
 case atStart=>exact⟨0,rfl,by omega,by omega,by unfold Hid;simp,Below.refl _ _⟩
 obtain⟨j,rfl,H,rfl,l,a⟩:=hrel;have m:=a.o.size
 by_cases hlt:j<len
 ·
  obtain⟨b,o,x,y,d,n,p⟩:=InQ.len (InQ.list q.o a.o) j hlt;subst y;obtain⟨I,J,L,M,N,O,P,Q⟩:=EqN.cells_at p;have z:=hI (take_snocA zs j x d);have B:=hI (mem_takeA d);have C:decide (j<len)=true:=decide_eq_true hlt;have c:=hI (ev1_R x bp wr n (s.o.belowW a.o));clear d n p
  cases hp:x.ok with
  | true=>
   rw[hp]at c;go_wp2_with fail;refine c.o.mono ?_;rintro e w2 ⟨rfl,g⟩;go_wp2
   go_roundg (len-(j+1))
   case measure=>omega
   case rel=>exact⟨j+1,by go_num,by omega,rfl,hI (by rw[z.o,List.all_append,l.o];simp[hp]),(hI (a.o.trans (g.o.mono m)))⟩
  | false=>
   rw[hp]at c;go_wp2_with fail;refine c.o.mono ?_;rintro e w2 ⟨rfl,g⟩;go_wp2;go_ret;exact⟨j,rfl,hI (by rw[List.all_eq_false.2 ⟨x,B.o,by rw[hp];simp⟩];simp),(hI (a.o.trans (g.o.mono m)))⟩
 have D:j=len:=(by omega);have E:=hI (show zs.all EqN.ok=true by have:=l.o;rwa [D,←u.o,List.take_length]at this);have C:decide (j<len)=false:=decide_eq_false hlt;go_wp2;go_ret;exact⟨-1,rfl,hI (by rw[E.o];rfl),a⟩
theorem has_R(A:Option Addr)(len cap bp:Nat)(zs:List EqN)(w:World)(hx:InL 7 EqN.cells InQ w A len cap zs)(hp:Blk w bp 179 #[.func (.func 111) #[] #[]]):
 Calls Tryz.prog 137 #[.l A len cap,.func (.func 138) #[] #[.p bp]] w (RetB (.b (!(zs.all EqN.ok))) w):=by
 have KK:=hI (idx_R A len cap bp zs w hx hp);clear hx hp
 go_in
 go_wp2_with fail;refine KK.o.mono ?_;rintro e w2 ⟨r,rfl,HR,HB⟩;go_wp2;go_ret;exact⟨ret_bool HR.o,HB⟩
theorem every_R(A:Option Addr)(len cap:Nat)(zs:List EqN)(w:World)(hx:InL 7 EqN.cells InQ w A len cap zs):
 Calls Tryz.prog 110 #[.l A len cap,.func (.func 111) #[] #[]] w (RetB (.b (zs.all EqN.ok)) w):=by
 have HX:=hI hx;clear hx
 go_in
 go_upto_region 1 with(fail);generalize hw1:World.alloc _ _=w1;obtain⟨HW1,F1⟩:=gn1 hw1;clear hw1;go_wp2_with fail;refine(has_R A len cap w.heap.size zs w1 (InQ.list HX.o HW1.o) F1.o).mono ?_;rintro e w2 ⟨rfl,HB⟩;go_wp2;go_ret;exact⟨ret_bool (by simp),HW1.o.t HB⟩
theorem edge_p(x:EdN)(w:World)(hx:InG w x):Calls Tryz.prog 109 #[x.val] w (RetB (.b x.ok) w):=by
 have d:=hI hx;have m:x.tn.size≤maxLen:=hx.hs;have Q:=hx.d1;have R:=hx.d2
 obtain⟨u,g⟩:∃n,okE x.T=n:=⟨_,rfl⟩
 obtain⟨n,i⟩:∃n,nameP x.tn.data.toList=n:=⟨_,rfl⟩
 obtain⟨l,M⟩:∃n,decide ((x.len:Int)≤4)=n:=⟨_,rfl⟩
 obtain⟨a,j⟩:∃n,x.rs.all EqN.ok=n:=⟨_,rfl⟩
 have c:=hI (show x.ok=(u&&(((x.dir==1)||(x.dir==2))&&(n&&(l&&a))))by unfold EdN.ok EdN.dirB;rw[g,i,M,j]);have N:=hI g;have o:=hI i;have r:=hI j;clear hx i g j;simp only[EdN.val]
 go_in
 go_upto_region 1 with(fail);generalize hw1:World.alloc _ _=w1;obtain⟨s,y⟩:=gn1 hw1;clear hw1;obtain⟨z,B,C,D,E,F,G,H,I⟩:=y.o.cs9;go_wp2_with fail;refine(eValid_p x.T x.v w1 (d.o.e.go s.o)).mono ?_;rw[N.o];rintro e w2 ⟨rfl,J⟩;have b:=s.o.t J;clear z B C D E F G H I;obtain⟨z,B,C,D,E,F,G,H,I⟩:=(y.o.belowW J.o).cs9
 cases u with
 | false=>
  go_wp2;go_ret
  exact⟨ret_bool (by rw[c.o];rfl),b⟩
 | true=>
  obtain⟨p,L⟩:∃n,(x.dir==1)=n:=⟨_,rfl⟩
  obtain⟨q,O⟩:∃n,(x.dir==2)=n:=⟨_,rfl⟩
  rw[L,O]at c
  have S:x.dir≠1∨p=true:=by
   cases p with
   | true=>exact .inr rfl
   | false=>exact .inl (by simpa using L)
  by_cases hpq:(p||q)=true
  case neg=>
   have P:=hI (show(p||q)=false by simpa using hpq)
   obtain⟨rfl,rfl⟩:p=false∧q=false:=by simpa using P.o
   go_wp2;go_ret;exact⟨ret_bool (by rw[c.o];rfl),b⟩
  cases p with
  | true=>
   go_wp2_with fail;refine(name_any x.tn w2 m).mono ?_;rw[o.o];rintro e w3 ⟨rfl,rfl⟩
   cases n with
   | false=>
    go_wp2;go_ret
    exact⟨ret_bool (by rw[c.o];rfl),b⟩
   | true=>
    cases l with
    | false=>
     go_wp2;go_ret
     exact⟨ret_bool (by rw[c.o];rfl),b⟩
    | true=>
     go_wp2_with fail;refine(every_R x.A x.len x.cap x.rs w2 (InQ.list d.o.hr b.o)).mono ?_;rw[r.o];rintro e w4 ⟨rfl,k⟩;go_wp2;go_ret
     exact⟨ret_bool (by rw[c.o];rfl),b.o.t k⟩
  | false=>
   obtain rfl:q=true:=by simpa using hpq
   go_wp2_with fail;refine(name_any x.tn w2 m).mono ?_;rw[o.o];rintro e w3 ⟨rfl,rfl⟩
   cases n with
   | false=>
    go_wp2;go_ret
    exact⟨ret_bool (by rw[c.o];rfl),b⟩
   | true=>
    cases l with
    | false=>
     go_wp2;go_ret
     exact⟨ret_bool (by rw[c.o];rfl),b⟩
    | true=>
     go_wp2_with fail;refine(every_R x.A x.len x.cap x.rs w2 (InQ.list d.o.hr b.o)).mono ?_;rw[r.o];rintro e w4 ⟨rfl,k⟩;go_wp2;go_ret;exact⟨ret_bool (by rw[c.o];rfl),b.o.t k⟩
theorem ev1_G(x:EdN)(bp:Nat)(w:World)(hx:InG w x)(hp:Blk w bp 180 #[.func (.func 109) #[] #[]]):
 Calls Tryz.prog 136 #[x.val,.p bp] w (RetB (.b (!x.ok)) w):=by
 have HX:=hI hx;have HP:=hI hp;clear hx hp;simp only[EdN.val]
 go_in
 go_upto_region 1 with(fail);generalize hw1:World.alloc _ _=w1;obtain⟨HW1,F1⟩:=gn1 hw1;clear hw1;have pp:=(HP.o.belowW HW1.o).cell;obtain⟨pr0,pr1,pr2,pr3,pr4,pr5,pr6,pr7,pr8⟩:=F1.o.cs9;go_wp2_with fail;refine(edge_p x w1 (HX.o.belowW HW1.o)).mono ?_;rintro e w5 ⟨rfl,HB⟩;go_wp2;go_ret;exact⟨rfl,HW1.o.t HB⟩
theorem idx_G(A:Option Addr)(len cap bp:Nat)(zs:List EdN)(w:World)(hx:InL 9 EdN.cells InG w A len cap zs)(hp:Blk w bp 180 #[.func (.func 109) #[] #[]]):
 Calls Tryz.prog 178 #[.l A len cap,.func (.func 136) #[] #[.p bp]] w fun e w'=>∃r:Int,e= .returned (.i r)∧Hid (decide (0≤r)= !(zs.all EdN.ok))∧Hid (Below w.heap.size w w'):=by
 have q:=hI hx;have s:=hI hp;have u:=hI hx.hl
 have F:len≤9223372036854775807:=by
  have G:=hx.hc;have v:=hx.hm;unfold maxLen at v
  omega
 clear hx hp
 go_in
 go_wp2
 go_loopg [8] len (fun k i wr=>∃j:Nat,i= .i j∧j≤len∧k=len-j∧Hid ((zs.take j).all EdN.ok=true)∧Hid (Below w.heap.size w wr))
 case atStart=>exact⟨0,rfl,by omega,by omega,by unfold Hid;simp,Below.refl _ _⟩
 obtain⟨j,rfl,H,rfl,l,a⟩:=hrel;have m:=a.o.size
 by_cases hlt:j<len
 ·
  obtain⟨b,o,x,y,d,n,p⟩:=InG.len (InG.list q.o a.o) j hlt;subst y;obtain⟨I,J,L,M,N,O,P,Q,R,S⟩:=EdN.cells_at p;have z:=hI (take_snocA zs j x d);have B:=hI (mem_takeA d);have C:decide (j<len)=true:=decide_eq_true hlt;have c:=hI (ev1_G x bp wr n (s.o.belowW a.o));clear d n p
  cases hp:x.ok with
  | true=>
   rw[hp]at c;go_wp2_with fail;refine c.o.mono ?_;rintro e w2 ⟨rfl,g⟩;go_wp2
   go_roundg (len-(j+1))
   case measure=>omega
   case rel=>exact⟨j+1,by go_num,by omega,rfl,hI (by rw[z.o,List.all_append,l.o];simp[hp]),(hI (a.o.trans (g.o.mono m)))⟩
  | false=>
   rw[hp]at c;go_wp2_with fail;refine c.o.mono ?_;rintro e w2 ⟨rfl,g⟩;go_wp2;go_ret;exact⟨j,rfl,hI (by rw[List.all_eq_false.2 ⟨x,B.o,by rw[hp];simp⟩];simp),(hI (a.o.trans (g.o.mono m)))⟩
 have D:j=len:=(by omega);have E:=hI (show zs.all EdN.ok=true by have:=l.o;rwa [D,←u.o,List.take_length]at this);have C:decide (j<len)=false:=decide_eq_false hlt;go_wp2;go_ret;exact⟨-1,rfl,hI (by rw[E.o];rfl),a⟩
theorem has_G(A:Option Addr)(len cap bp:Nat)(zs:List EdN)(w:World)(hx:InL 9 EdN.cells InG w A len cap zs)(hp:Blk w bp 180 #[.func (.func 109) #[] #[]]):
 Calls Tryz.prog 135 #[.l A len cap,.func (.func 136) #[] #[.p bp]] w (RetB (.b (!(zs.all EdN.ok))) w):=by
 have KK:=hI (idx_G A len cap bp zs w hx hp);clear hx hp
 go_in
 go_wp2_with fail;refine KK.o.mono ?_;rintro e w2 ⟨r,rfl,HR,HB⟩;go_wp2;go_ret;exact⟨ret_bool HR.o,HB⟩
theorem every_G(A:Option Addr)(len cap:Nat)(zs:List EdN)(w:World)(hx:InL 9 EdN.cells InG w A len cap zs):
 Calls Tryz.prog 108 #[.l A len cap,.func (.func 109) #[] #[]] w (RetB (.b (zs.all EdN.ok)) w):=by
 have HX:=hI hx;clear hx
 go_in
 go_upto_region 1 with(fail);generalize hw1:World.alloc _ _=w1;obtain⟨HW1,F1⟩:=gn1 hw1;clear hw1;go_wp2_with fail;refine(has_G A len cap w.heap.size zs w1 (InG.list HX.o HW1.o) F1.o).mono ?_;rintro e w2 ⟨rfl,HB⟩;go_wp2;go_ret;exact⟨ret_bool (by simp),HW1.o.t HB⟩
theorem mode_p(x:MdN)(w:World)(hx:InM w x):Calls Tryz.prog 61 #[x.val] w (RetB (.b x.ok) w):=by
 have p:=hI hx;have z:x.s.size≤maxLen:=hx.hs
 obtain⟨n,j⟩:∃n,nameP x.s.data.toList=n:=⟨_,rfl⟩
 obtain⟨u,C⟩:∃n,decide ((x.n:Int)≤4)=n:=⟨_,rfl⟩
 obtain⟨v,D⟩:∃n,decide ((x.m:Int)≤4)=n:=⟨_,rfl⟩
 obtain⟨a,k⟩:∃n,x.fl.all EqN.ok=n:=⟨_,rfl⟩
 obtain⟨b,l⟩:∃n,x.ed.all EdN.ok=n:=⟨_,rfl⟩
 have g:=hI (show x.ok=(n&&(u&&(v&&(a&&b))))by unfold MdN.ok;rw[j,C,D,k,l]);have E:=hI j;have F:=hI k;have G:=hI l;clear hx j k l;simp only[MdN.val]
 go_in
 go_upto_region 1 with(fail);generalize hw1:World.alloc _ _=w1;obtain⟨i,q⟩:=gn1 hw1;clear hw1;have r:=q.o.cell;go_wp2_with fail;refine(name_any x.s w1 z).mono ?_;rw[E.o];rintro e w2 ⟨rfl,rfl⟩
 cases n with
 | false=>
  go_wp2;go_ret
  exact⟨ret_bool (by rw[g.o];rfl),i⟩
 | true=>
  cases u with
  | false=>
   go_wp2;go_ret
   exact⟨ret_bool (by rw[g.o];rfl),i⟩
  | true=>
   cases v with
   | false=>
    go_wp2;go_ret
    exact⟨ret_bool (by rw[g.o];rfl),i⟩
   | true=>
    go_wp2_with fail;refine(every_Q x.A x.n x.c x.fl w1 (InQ.list p.o.hf i.o)).mono ?_;rw[F.o];rintro e w3 ⟨rfl,y⟩;have o:=i.o.t y;have H:=q.o.b9 y;clear r;have r:=H.o.cell
    cases a with
    | false=>
     go_wp2;go_ret
     exact⟨ret_bool (by rw[g.o];rfl),o⟩
    | true=>
     go_wp2_with fail;refine(every_G x.B x.m x.d x.ed w3 (InG.list p.o.he o.o)).mono ?_;rw[G.o];rintro e w4 ⟨rfl,I⟩;go_wp2;go_ret;exact⟨ret_bool (by rw[g.o];rfl),o.o.t I⟩
theorem ev1_M(x:MdN)(bp:Nat)(w:World)(hx:InM w x)(hp:Blk w bp 133 #[.func (.func 61) #[] #[]]):
 Calls Tryz.prog 105 #[x.val,.p bp] w (RetB (.b (!x.ok)) w):=by
 have HX:=hI hx;have HP:=hI hp;clear hx hp;simp only[MdN.val]
 go_in
 go_upto_region 1 with(fail);generalize hw1:World.alloc _ _=w1;obtain⟨HW1,F1⟩:=gn1 hw1;clear hw1;have pp:=(HP.o.belowW HW1.o).cell;have pr:=F1.o.cell;go_wp2_with fail;refine(mode_p x w1 (HX.o.belowW HW1.o)).mono ?_;rintro e w5 ⟨rfl,HB⟩;go_wp2;go_ret;exact⟨rfl,HW1.o.t HB⟩
theorem idx_M(A:Option Addr)(len cap bp:Nat)(zs:List MdN)(w:World)(hx:InL 3 MdN.cells InM w A len cap zs)(hp:Blk w bp 133 #[.func (.func 61) #[] #[]]):
 Calls Tryz.prog 132 #[.l A len cap,.func (.func 105) #[] #[.p bp]] w fun e w'=>∃r:Int,e= .returned (.i r)∧Hid (decide (0≤r)= !(zs.all MdN.ok))∧Hid (Below w.heap.size w w'):=by
 have q:=hI hx;have s:=hI hp;have u:=hI hx.hl
 have F:len≤9223372036854775807:=by
  have G:=hx.hc;have v:=hx.hm;unfold maxLen at v
  omega
 clear hx hp
 go_in
 go_wp2
 go_loopg [8] len (fun k i wr=>∃j:Nat,i= .i j∧j≤len∧k=len-j∧Hid ((zs.take j).all MdN.ok=true)∧Hid (Below w.heap.size w wr))
 case atStart=>exact⟨0,rfl,by omega,by omega,by unfold Hid;simp,Below.refl _ _⟩
 obtain⟨j,rfl,H,rfl,l,a⟩:=hrel;have m:=a.o.size
 by_cases hlt:j<len
 ·
  obtain⟨b,o,x,y,d,n,p⟩:=InM.len (InM.list q.o a.o) j hlt;subst y;obtain⟨I,J,L,M⟩:=MdN.cells_at p;have z:=hI (take_snocA zs j x d);have B:=hI (mem_takeA d);have C:decide (j<len)=true:=decide_eq_true hlt;have c:=hI (ev1_M x bp wr n (s.o.belowW a.o));clear d n p
  cases hp:x.ok with
  | true=>
   rw[hp]at c;go_wp2_with fail;refine c.o.mono ?_;rintro e w2 ⟨rfl,g⟩;go_wp2
   go_roundg (len-(j+1))
   case measure=>omega
   case rel=>exact⟨j+1,by go_num,by omega,rfl,hI (by rw[z.o,List.all_append,l.o];simp[hp]),(hI (a.o.trans (g.o.mono m)))⟩
  | false=>
   rw[hp]at c;go_wp2_with fail;refine c.o.mono ?_;rintro e w2 ⟨rfl,g⟩;go_wp2;go_ret;exact⟨j,rfl,hI (by rw[List.all_eq_false.2 ⟨x,B.o,by rw[hp];simp⟩];simp),(hI (a.o.trans (g.o.mono m)))⟩
 have D:j=len:=(by omega);have E:=hI (show zs.all MdN.ok=true by have:=l.o;rwa [D,←u.o,List.take_length]at this);have C:decide (j<len)=false:=decide_eq_false hlt;go_wp2;go_ret;exact⟨-1,rfl,hI (by rw[E.o];rfl),a⟩
theorem has_M(A:Option Addr)(len cap bp:Nat)(zs:List MdN)(w:World)(hx:InL 3 MdN.cells InM w A len cap zs)(hp:Blk w bp 133 #[.func (.func 61) #[] #[]]):
 Calls Tryz.prog 104 #[.l A len cap,.func (.func 105) #[] #[.p bp]] w (RetB (.b (!(zs.all MdN.ok))) w):=by
 have KK:=hI (idx_M A len cap bp zs w hx hp);clear hx hp
 go_in
 go_wp2_with fail;refine KK.o.mono ?_;rintro e w2 ⟨r,rfl,HR,HB⟩;go_wp2;go_ret;exact⟨ret_bool HR.o,HB⟩
theorem every_M(A:Option Addr)(len cap:Nat)(zs:List MdN)(w:World)(hx:InL 3 MdN.cells InM w A len cap zs):
 Calls Tryz.prog 60 #[.l A len cap,.func (.func 61) #[] #[]] w (RetB (.b (zs.all MdN.ok)) w):=by
 have HX:=hI hx;clear hx
 go_in
 go_upto_region 1 with(fail);generalize hw1:World.alloc _ _=w1;obtain⟨HW1,F1⟩:=gn1 hw1;clear hw1;go_wp2_with fail;refine(has_M A len cap w.heap.size zs w1 (InM.list HX.o HW1.o) F1.o).mono ?_;rintro e w2 ⟨rfl,HB⟩;go_wp2;go_ret;exact⟨ret_bool (by simp),HW1.o.t HB⟩
theorem PbN.sz_iff{x:PbN}:x.sz=true↔1≤x.n∧x.n≤4∧x.m≤4∧1≤x.k∧x.k≤8:=by
 unfold PbN.sz;simp only[Bool.and_eq_true,decide_eq_true_eq,and_assoc]
theorem PbN.no{x:PbN}(h:¬(1≤x.n∧x.n≤4∧x.m≤4∧1≤x.k∧x.k≤8)):x.ok=false:=by
 unfold PbN.ok
 cases hs:x.sz with
 | true=>exact absurd (PbN.sz_iff.1 hs) h
 | false=>rfl
theorem PbN.yes{x:PbN}(h:1≤x.n∧x.n≤4∧x.m≤4∧1≤x.k∧x.k≤8):x.ok=(x.st.all DcN.ok&&(x.pa.all DcN.ok&&(x.ms.all MdN.ok&&vB x.t x.u))):=by
 unfold PbN.ok;rw[PbN.sz_iff.2 h]
 rfl
theorem tproblem_p(x0:PbN)(w:World)(hx:InP w x0):Calls Tryz.prog 26 #[x0.val] w (RetB (.b x0.ok) w):=by
 obtain⟨q,d,r,m,s,j,y,o,u,g,x,p,k,l⟩:=x0;have Y:=hI (show InL 5 DcN.cells InD w q d r m from hx.hs);have Z:=hI (show InL 5 DcN.cells InD w s j y o from hx.hp);have aa:=hI (show InL 3 MdN.cells InM w u g x p from hx.hm);have tL: -9223372036854775808≤k:=hx.t1;have tH:k≤9223372036854775807:=hx.t2;have uL: -9223372036854775808≤l:=hx.u1;have uH:l≤9223372036854775807:=hx.u2;clear hx;simp only[PbN.val]
 go_in
 go_upto_region 1 with(fail);generalize hw1:World.alloc _ _=w1;obtain⟨z,M⟩:=gn1 hw1;clear hw1;obtain⟨B,C,D,E,F⟩:=M.o.cs5
 by_cases h0:d<1
 case pos=>
  have N:decide ((d:Int)<1)=true:=dT;have i:=hI (show PbN.ok ⟨q,d,r,m,s,j,y,o,u,g,x,p,k,l⟩=false from PbN.no (by simp only;omega));go_wp2;go_ret;exact⟨ret_bool i.o.symm,z⟩
 have N:decide ((d:Int)<1)=false:=dF
 by_cases h1:4<d
 case pos=>
  have O:decide ((4:Int)<(d:Int))=true:=dT;have i:=hI (show PbN.ok ⟨q,d,r,m,s,j,y,o,u,g,x,p,k,l⟩=false from PbN.no (by simp only;omega));go_wp2;go_ret;exact⟨ret_bool i.o.symm,z⟩
 have O:decide ((4:Int)<(d:Int))=false:=dF
 by_cases h2:4<j
 case pos=>
  have P:decide ((4:Int)<(j:Int))=true:=dT;have i:=hI (show PbN.ok ⟨q,d,r,m,s,j,y,o,u,g,x,p,k,l⟩=false from PbN.no (by simp only;omega));go_wp2;go_ret;exact⟨ret_bool i.o.symm,z⟩
 have P:decide ((4:Int)<(j:Int))=false:=dF
 by_cases h3:g<1
 case pos=>
  have Q:decide ((g:Int)<1)=true:=dT;have i:=hI (show PbN.ok ⟨q,d,r,m,s,j,y,o,u,g,x,p,k,l⟩=false from PbN.no (by simp only;omega));go_wp2;go_ret;exact⟨ret_bool i.o.symm,z⟩
 have Q:decide ((g:Int)<1)=false:=dF
 by_cases h4:8<g
 case pos=>
  have R:decide ((8:Int)<(g:Int))=true:=dT;have i:=hI (show PbN.ok ⟨q,d,r,m,s,j,y,o,u,g,x,p,k,l⟩=false from PbN.no (by simp only;omega));go_wp2;go_ret;exact⟨ret_bool i.o.symm,z⟩
 have R:decide ((8:Int)<(g:Int))=false:=dF
 obtain⟨a,G⟩:∃n,m.all DcN.ok=n:=⟨_,rfl⟩
 obtain⟨b,H⟩:∃n,o.all DcN.ok=n:=⟨_,rfl⟩
 obtain⟨c,hc⟩:∃n,p.all MdN.ok=n:=⟨_,rfl⟩
 obtain⟨v,I⟩:∃n,vB k l=n:=⟨_,rfl⟩
 have i:=hI (show PbN.ok ⟨q,d,r,m,s,j,y,o,u,g,x,p,k,l⟩=(a&&(b&&(c&&v)))by rw[PbN.yes (by simp only;omega)];simp only[G,H,hc,I]);have HA:=hI G;have HB:=hI H;have HC:=hI hc;have HV:=hI I;clear G H hc I;go_wp2_with fail;clear N O P Q R;refine(every_D q d r m w1 (InD.list Y.o z.o)).mono ?_;rw[HA.o];rintro e w2 ⟨rfl,S⟩;have J:=z.o.t S;have T:=M.o.b9 S;clear B C D E F;obtain⟨B,C,D,E,F⟩:=T.o.cs5
 cases a with
 | false=>
  go_wp2;go_ret
  exact⟨ret_bool (by rw[i.o];rfl),J⟩
 | true=>
  go_wp2_with fail;refine(every_D s j _ o w2 (InD.list Z.o J.o)).mono ?_;rw[HB.o];rintro e w3 ⟨rfl,U⟩;have L:=J.o.t U;have V:=T.o.b9 U;clear B C D E F;obtain⟨B,C,D,E,F⟩:=V.o.cs5
  cases b with
  | false=>
   go_wp2;go_ret
   exact⟨ret_bool (by rw[i.o];rfl),L⟩
  | true=>
   go_wp2_with fail;refine(every_M u g x p w3 (InM.list aa.o L.o)).mono ?_;rw[HC.o];rintro e w4 ⟨rfl,W⟩;have X:=L.o.t W;clear B C D E F;obtain⟨B,C,D,E,F⟩:=(V.o.belowW W.o).cs5
   cases c with
   | false=>
    go_wp2;go_ret
    exact⟨ret_bool (by rw[i.o];rfl),X⟩
   | true=>
    go_wp2_with fail;refine(valid_q k l w4 tL tH uL uH).mono ?_;rw[HV.o];rintro e w5 ⟨rfl,aj⟩;go_wp2;go_ret;exact⟨ret_bool (by rw[i.o];rfl),X.o.t aj⟩
