import Derived.Test.YtgcjmhjjpbcfmaaGreatDoorQG
open List renaming setIfInBounds_toArray → Lj,set_cons_zero → Lk,set_cons_succ → Lq,getElem_toArray → Ly,getElem_cons_zero → Lz,getElem_cons_succ → Lv
set_option maxHeartbeats 8000000
set_option maxRecDepth 100000
namespace Go.Proofs.YtgcjmhjjpbcfmaaGreatDoor
open Go.RowKit Go.Fl Go.Fl.Fm
def RetB(v:Value)(w:World)(e:Ending)(w':World):Prop:=e= .returned v∧Hid (Below w.heap.size w w')
theorem below_box(w:World)(o:Obj):Below w.heap.size w (w.alloc o):=(Below.refl _ _).alloc (Nat.le_refl _) _
theorem gn1{w z:World}{t0:TypeId}{c0:Array Value}(h:w.alloc (.cells c0 t0)=z):Go.RowKit.Hid (Go.RowKit.Below w.heap.size w z)∧Go.RowKit.Hid (Blk z w.heap.size t0 c0):=by
 subst h;exact⟨hI ((Go.RowKit.Below.refl _ _).alloc (Nat.le_refl _) _),hI (Blk.new _ _ _)⟩
theorem gn2{w z:World}{t0 t1:TypeId}{c0 c1:Array Value}(h:(w.alloc (.cells c0 t0)).alloc (.cells c1 t1)=z):Go.RowKit.Hid (Go.RowKit.Below w.heap.size w z)∧Go.RowKit.Hid (Blk z w.heap.size t0 c0)∧Go.RowKit.Hid (Blk z (w.heap.size+1) t1 c1):=by
 subst h;exact⟨hI (((Go.RowKit.Below.refl _ _).alloc (Nat.le_refl _) _).alloc (by simp) _),hI (Blk.belowW (Blk.new _ _ _) (below_box _ _)),hI ((by have:=Blk.new (w.alloc (.cells c0 t0)) t1 c1;simpa using this))⟩
theorem gn3{w z:World}{t0 t1 t2:TypeId}{c0 c1 c2:Array Value}(h:((w.alloc (.cells c0 t0)).alloc (.cells c1 t1)).alloc (.cells c2 t2)=z):Go.RowKit.Hid (Go.RowKit.Below w.heap.size w z)∧Go.RowKit.Hid (Blk z w.heap.size t0 c0)∧Go.RowKit.Hid (Blk z (w.heap.size+1) t1 c1)∧Go.RowKit.Hid (Blk z (w.heap.size+1+1) t2 c2):=by
 subst h;exact⟨hI ((((Go.RowKit.Below.refl _ _).alloc (Nat.le_refl _) _).alloc (by simp) _).alloc (by simp;omega) _),hI (Blk.belowW (Blk.belowW (Blk.new _ _ _) (below_box _ _)) (below_box _ _)),hI (Blk.belowW ((by have:=Blk.new (w.alloc (.cells c0 t0)) t1 c1;simpa using this)) (below_box _ _)),hI ((by have:=Blk.new ((w.alloc (.cells c0 t0)).alloc (.cells c1 t1)) t2 c2;simpa using this))⟩
theorem gn4{w z:World}{t0 t1 t2 t3:TypeId}{c0 c1 c2 c3:Array Value}(h:(((w.alloc (.cells c0 t0)).alloc (.cells c1 t1)).alloc (.cells c2 t2)).alloc (.cells c3 t3)=z):Go.RowKit.Hid (Go.RowKit.Below w.heap.size w z)∧Go.RowKit.Hid (Blk z w.heap.size t0 c0)∧Go.RowKit.Hid (Blk z (w.heap.size+1) t1 c1)∧Go.RowKit.Hid (Blk z (w.heap.size+1+1) t2 c2)∧Go.RowKit.Hid (Blk z (w.heap.size+1+1+1) t3 c3):=by
 subst h;exact⟨hI (((((Go.RowKit.Below.refl _ _).alloc (Nat.le_refl _) _).alloc (by simp) _).alloc (by simp;omega) _).alloc (by simp;omega) _),hI (Blk.belowW (Blk.belowW (Blk.belowW (Blk.new _ _ _) (below_box _ _)) (below_box _ _)) (below_box _ _)),hI (Blk.belowW (Blk.belowW ((by have:=Blk.new (w.alloc (.cells c0 t0)) t1 c1;simpa using this)) (below_box _ _)) (below_box _ _)),hI (Blk.belowW ((by have:=Blk.new ((w.alloc (.cells c0 t0)).alloc (.cells c1 t1)) t2 c2;simpa using this)) (below_box _ _)),hI ((by have:=Blk.new (((w.alloc (.cells c0 t0)).alloc (.cells c1 t1)).alloc (.cells c2 t2)) t3 c3;simpa using this))⟩
theorem gn5{w z:World}{t0 t1 t2 t3 t4:TypeId}{c0 c1 c2 c3 c4:Array Value}(h:((((w.alloc (.cells c0 t0)).alloc (.cells c1 t1)).alloc (.cells c2 t2)).alloc (.cells c3 t3)).alloc (.cells c4 t4)=z):Go.RowKit.Hid (Go.RowKit.Below w.heap.size w z)∧Go.RowKit.Hid (Blk z w.heap.size t0 c0)∧Go.RowKit.Hid (Blk z (w.heap.size+1) t1 c1)∧Go.RowKit.Hid (Blk z (w.heap.size+1+1) t2 c2)∧Go.RowKit.Hid (Blk z (w.heap.size+1+1+1) t3 c3)∧Go.RowKit.Hid (Blk z (w.heap.size+1+1+1+1) t4 c4):=by
 subst h;exact⟨hI ((((((Go.RowKit.Below.refl _ _).alloc (Nat.le_refl _) _).alloc (by simp) _).alloc (by simp;omega) _).alloc (by simp;omega) _).alloc (by simp;omega) _),hI (Blk.belowW (Blk.belowW (Blk.belowW (Blk.belowW (Blk.new _ _ _) (below_box _ _)) (below_box _ _)) (below_box _ _)) (below_box _ _)),hI (Blk.belowW (Blk.belowW (Blk.belowW ((by have:=Blk.new (w.alloc (.cells c0 t0)) t1 c1;simpa using this)) (below_box _ _)) (below_box _ _)) (below_box _ _)),hI (Blk.belowW (Blk.belowW ((by have:=Blk.new ((w.alloc (.cells c0 t0)).alloc (.cells c1 t1)) t2 c2;simpa using this)) (below_box _ _)) (below_box _ _)),hI (Blk.belowW ((by have:=Blk.new (((w.alloc (.cells c0 t0)).alloc (.cells c1 t1)).alloc (.cells c2 t2)) t3 c3;simpa using this)) (below_box _ _)),hI ((by have:=Blk.new ((((w.alloc (.cells c0 t0)).alloc (.cells c1 t1)).alloc (.cells c2 t2)).alloc (.cells c3 t3)) t4 c4;simpa using this))⟩
end Go.Proofs.YtgcjmhjjpbcfmaaGreatDoor
namespace Go.Fl.Fm
open Go.Fl.Rt
end Go.Fl.Fm
namespace Go.Proofs.YtgcjmhjjpbcfmaaGreatDoor
open Go.RowKit Go.Fl Go.Fl.Fm Go.Fl.Rt
theorem run_eq_rat(w:World)(l c l' c':Int):
 (binOp .eql 42 (.agg #[.i l,.i c]) (.agg #[.i l',.i c'])).run Tryz.prog w= .ok (.b ((l==l')&&(c==c'))) w:=by
 simp[go_sem]
 by_cases h3:l=l'<;>by_cases h4:c=c'<;>simp[h3,h4]
theorem operands_any(k:Int)(w:World):Calls Tryz.prog 195 #[.i k] w (fun e w'=>e= .returned (.i (opsK k))∧w=w'):=by
 by_cases h3:k=3
 ·
  subst h3
  go_in
  go_wp2;go_ret;exact⟨rfl,rfl⟩
 have a:(k==3)=false:=by rw[beq_eq_false_iff_ne];exact h3
 by_cases h4:k=4
 ·
  subst h4
  go_in
  go_wp2;go_ret;exact⟨rfl,rfl⟩
 have b:(k==4)=false:=by rw[beq_eq_false_iff_ne];exact h4
 by_cases h5:k=5
 ·
  subst h5
  go_in
  go_wp2;go_ret;exact⟨rfl,rfl⟩
 have c:(k==5)=false:=by rw[beq_eq_false_iff_ne];exact h5
 by_cases h6:k=6
 ·
  subst h6
  go_in
  go_wp2;go_ret;exact⟨rfl,rfl⟩
 have d:(k==6)=false:=by rw[beq_eq_false_iff_ne];exact h6
 by_cases h7:k=7
 ·
  subst h7
  go_in
  go_wp2;go_ret;exact⟨rfl,rfl⟩
 have g:(k==7)=false:=by rw[beq_eq_false_iff_ne];exact h7
 by_cases h8:k=8
 ·
  subst h8
  go_in
  go_wp2;go_ret;exact⟨rfl,rfl⟩
 have i:(k==8)=false:=by rw[beq_eq_false_iff_ne];exact h8
 by_cases h9:k=9
 ·
  subst h9
  go_in
  go_wp2;go_ret;exact⟨rfl,rfl⟩
 have j:(k==9)=false:=by rw[beq_eq_false_iff_ne];exact h9
 by_cases h10:k=10
 ·
  subst h10
  go_in
  go_wp2;go_ret;exact⟨rfl,rfl⟩
 have l:(k==10)=false:=by rw[beq_eq_false_iff_ne];exact h10
 by_cases h11:k=11
 ·
  subst h11
  go_in
  go_wp2;go_ret;exact⟨rfl,rfl⟩
 have m:(k==11)=false:=by rw[beq_eq_false_iff_ne];exact h11
 by_cases h12:k=12
 ·
  subst h12
  go_in
  go_wp2;go_ret;exact⟨rfl,rfl⟩
 have n:(k==12)=false:=by rw[beq_eq_false_iff_ne];exact h12
 by_cases h13:k=13
 ·
  subst h13
  go_in
  go_wp2;go_ret;exact⟨rfl,rfl⟩
 have o:(k==13)=false:=by rw[beq_eq_false_iff_ne];exact h13
 have e:opsK k= -1:=by
  unfold opsK;rw[if_neg (by omega),if_neg (by omega)]
 go_in
 go_wp2;go_ret;rw[e];exact⟨rfl,rfl⟩
theorem node_p(x:Nd)(w:World)(ok:HdOk x.h):Calls Tryz.prog 152 #[x.val] w (RetB (.b (nodeB nameP x.h x.len)) w):=by
 obtain⟨⟨c,n,d,b,k⟩,A,len,B⟩:=x;obtain⟨u,v,m,o,p,q,y,z,r⟩:=ok;simp only at u v m o p q y z r;simp only[Nd.val];have C:=run_eq_rat
 cases k1:(c==1)with
 | true=>
  cases V:decide (valid n d)with
  | false=>
   have a:=hI (show nodeB nameP ⟨c,n,d,b,k⟩ len=false by simp_all[nodeB])
   go_in
   go_wp2_with fail;generalize hw1:World.alloc _ _=w1;obtain⟨i,j⟩:=gn1 hw1;clear hw1;refine(valid_q n d _ m o p q).mono ?_;rintro e w2 ⟨rfl,g⟩;have l:=j.o.b9 g;have s:=l.o.cell;rw[show vB n d=false from V];go_wp2;go_ret;rw[a.o]
   exact⟨rfl,(i.o.t g)⟩
  | true=>
   cases E:b.toList.isEmpty with
   | false=>
    have a:=hI (show nodeB nameP ⟨c,n,d,b,k⟩ len=false by simp_all[nodeB])
    go_in
    go_wp2_with fail;generalize hw1:World.alloc _ _=w1;obtain⟨i,j⟩:=gn1 hw1;clear hw1;refine(valid_q n d _ m o p q).mono ?_;rintro e w2 ⟨rfl,g⟩;have l:=j.o.b9 g;have s:=l.o.cell;rw[show vB n d=true from V];go_wp2;go_ret;rw[a.o]
    exact⟨rfl,(i.o.t g)⟩
   | true=>
    cases K:(k==0)with
    | false=>
     have a:=hI (show nodeB nameP ⟨c,n,d,b,k⟩ len=false by simp_all[nodeB])
     go_in
     go_wp2_with fail;generalize hw1:World.alloc _ _=w1;obtain⟨i,j⟩:=gn1 hw1;clear hw1;refine(valid_q n d _ m o p q).mono ?_;rintro e w2 ⟨rfl,g⟩;have l:=j.o.b9 g;have s:=l.o.cell;rw[show vB n d=true from V];go_wp2;go_ret;rw[a.o]
     exact⟨rfl,(i.o.t g)⟩
    | true=>
     cases L0:((len:Int)==0)with
     | false=>
      have a:=hI (show nodeB nameP ⟨c,n,d,b,k⟩ len=false by simp_all[nodeB])
      go_in
      go_wp2_with fail;generalize hw1:World.alloc _ _=w1;obtain⟨i,j⟩:=gn1 hw1;clear hw1;refine(valid_q n d _ m o p q).mono ?_;rintro e w2 ⟨rfl,g⟩;have l:=j.o.b9 g;have s:=l.o.cell;rw[show vB n d=true from V];go_wp2;go_ret;rw[a.o]
      exact⟨rfl,(i.o.t g)⟩
     | true=>
      have a:=hI (show nodeB nameP ⟨c,n,d,b,k⟩ len=true by simp_all[nodeB])
      go_in
      go_wp2_with fail;generalize hw1:World.alloc _ _=w1;obtain⟨i,j⟩:=gn1 hw1;clear hw1;refine(valid_q n d _ m o p q).mono ?_;rintro e w2 ⟨rfl,g⟩;have l:=j.o.b9 g;have s:=l.o.cell;rw[show vB n d=true from V];go_wp2;go_ret;rw[a.o]
      exact⟨rfl,(i.o.t g)⟩
 | false=>
  cases k2:(c==2)with
  | true=>
   cases Z:((n==0)&&(d==0))with
   | false=>
    have a:=hI (show nodeB nameP ⟨c,n,d,b,k⟩ len=false by simp_all[nodeB])
    go_in
    go_wp2;go_ret;rw[a.o]
    exact⟨rfl,hI (below_box _ _)⟩
   | true=>
    cases N:nameP b.data.toList with
    | false=>
     have a:=hI (show nodeB nameP ⟨c,n,d,b,k⟩ len=false by simp_all[nodeB])
     go_in
     go_wp2_with fail;refine((fun w=>name_any b w r) _).mono ?_;rintro e w2 ⟨rfl,rfl⟩;rw[N];go_wp2;go_ret;rw[a.o]
     exact⟨rfl,hI (below_box _ _)⟩
    | true=>
     cases K:(k==0)with
     | false=>
      have a:=hI (show nodeB nameP ⟨c,n,d,b,k⟩ len=false by simp_all[nodeB])
      go_in
      go_wp2_with fail;refine((fun w=>name_any b w r) _).mono ?_;rintro e w2 ⟨rfl,rfl⟩;rw[N];go_wp2;go_ret;rw[a.o]
      exact⟨rfl,hI (below_box _ _)⟩
     | true=>
      cases L0:((len:Int)==0)with
      | false=>
       have a:=hI (show nodeB nameP ⟨c,n,d,b,k⟩ len=false by simp_all[nodeB])
       go_in
       go_wp2_with fail;refine((fun w=>name_any b w r) _).mono ?_;rintro e w2 ⟨rfl,rfl⟩;rw[N];go_wp2;go_ret;rw[a.o]
       exact⟨rfl,hI (below_box _ _)⟩
      | true=>
       have a:=hI (show nodeB nameP ⟨c,n,d,b,k⟩ len=true by simp_all[nodeB])
       go_in
       go_wp2_with fail;refine((fun w=>name_any b w r) _).mono ?_;rintro e w2 ⟨rfl,rfl⟩;rw[N];go_wp2;go_ret;rw[a.o]
       exact⟨rfl,hI (below_box _ _)⟩
  | false=>
   cases k8:(c==8)with
   | true=>
    cases Z:((n==0)&&(d==0))with
    | false=>
     have a:=hI (show nodeB nameP ⟨c,n,d,b,k⟩ len=false by simp_all[nodeB])
     go_in
     go_wp2;go_ret;rw[a.o]
     exact⟨rfl,hI (below_box _ _)⟩
    | true=>
     cases E:b.toList.isEmpty with
     | false=>
      have a:=hI (show nodeB nameP ⟨c,n,d,b,k⟩ len=false by simp_all[nodeB])
      go_in
      go_wp2;go_ret;rw[a.o]
      exact⟨rfl,hI (below_box _ _)⟩
     | true=>
      cases G:decide (0≤k)with
      | false=>
       have a:=hI (show nodeB nameP ⟨c,n,d,b,k⟩ len=false by simp_all[nodeB];omega)
       go_in
       go_wp2;go_ret;rw[a.o]
       exact⟨rfl,hI (below_box _ _)⟩
      | true=>
       cases J:decide (k≤16)with
       | false=>
        have a:=hI (show nodeB nameP ⟨c,n,d,b,k⟩ len=false by simp_all[nodeB];omega)
        go_in
        go_wp2;go_ret;rw[a.o]
        exact⟨rfl,hI (below_box _ _)⟩
       | true=>
        cases L1:((len:Int)==1)with
        | false=>
         have a:=hI (show nodeB nameP ⟨c,n,d,b,k⟩ len=false by simp_all[nodeB])
         go_in
         go_wp2;go_ret;rw[a.o]
         exact⟨rfl,hI (below_box _ _)⟩
        | true=>
         have a:=hI (show nodeB nameP ⟨c,n,d,b,k⟩ len=true by simp_all[nodeB])
         go_in
         go_wp2;go_ret;rw[a.o]
         exact⟨rfl,hI (below_box _ _)⟩
   | false=>
    cases Z:((n==0)&&(d==0))with
    | false=>
     have a:=hI (show nodeB nameP ⟨c,n,d,b,k⟩ len=false by simp_all[nodeB])
     go_in
     go_wp2
     go_quiet (fail)
     go_wp2;go_ret;rw[a.o]
     exact⟨rfl,hI (below_drewN (below_box _ _) _)⟩
    | true=>
     cases E:b.toList.isEmpty with
     | false=>
      have a:=hI (show nodeB nameP ⟨c,n,d,b,k⟩ len=false by simp_all[nodeB])
      go_in
      go_wp2
      go_quiet (fail)
      go_wp2;go_ret;rw[a.o]
      exact⟨rfl,hI (below_drewN (below_box _ _) _)⟩
     | true=>
      cases K:(k==0)with
      | false=>
       have a:=hI (show nodeB nameP ⟨c,n,d,b,k⟩ len=false by simp_all[nodeB])
       go_in
       go_wp2
       go_quiet (fail)
       go_wp2;go_ret;rw[a.o]
       exact⟨rfl,hI (below_drewN (below_box _ _) _)⟩
      | true=>
       cases LO:((len:Int)==opsK c)with
       | false=>
        have a:=hI (show nodeB nameP ⟨c,n,d,b,k⟩ len=false by simp_all[nodeB])
        go_in
        go_wp2
        go_quiet ((go_at_call 195;exact Calls.quiet_of_same ((operands_any _ _).mono fun e w' h=>⟨h.1,h.2.symm⟩)))
        go_wp2;go_ret;rw[a.o]
        exact⟨rfl,hI (below_drewN (below_box _ _) _)⟩
       | true=>
        have a:=hI (show nodeB nameP ⟨c,n,d,b,k⟩ len=true by simp_all[nodeB])
        go_in
        go_wp2
        go_quiet ((go_at_call 195;exact Calls.quiet_of_same ((operands_any _ _).mono fun e w' h=>⟨h.1,h.2.symm⟩)))
        go_wp2;go_ret;rw[a.o];exact⟨rfl,hI (below_drewN (below_box _ _) _)⟩
def cR(f:Nat)(T:TE):Nat:=cntR nameP f T
theorem drop_get{α:Type} [Inhabited α](l:List α)(j:Nat)(h:j<l.length):l.drop j=l.getD j default::l.drop (j+1):=by
 rw[List.drop_eq_getElem_cons h,List.getD_eq_getElem?_getD,List.getElem?_eq_getElem h]
 rfl
def cP(f:Nat)(T:TE)(m:Nat):Bool×Nat:=cntP nameP f T m
theorem cP_succ(f:Nat)(T:TE)(m:Nat):cP (f+1) T m=if m+1≤200∧nodeB nameP T.h T.l.length=true then goP (cP f) T.l (m+1)else(false,m+1):=rfl
theorem cP_le(f:Nat)(T:TE)(m:Nat)(h:m≤200):(cP f T m).2≤201∧((cP f T m).1=true→(cP f T m).2≤200):=cntP_le nameP f T m h
theorem grown_trans{a b c:World}{r:Option Nat}(h:a.grownBy b r)(h2:b.grownBy c r):a.grownBy c r:=
 ⟨h2.os.trans h.os,h2.tape.trans h.tape,h2.output.trans h.output,Nat.le_trans h.size h2.size,fun k hk hr=>(h2.block k (Nat.lt_of_lt_of_le hk h.size) hr).trans (h.block k hk hr)⟩
theorem grown_below{a b:World}(r:Option Nat)(h:Below a.heap.size a b):a.grownBy b r:=⟨h.os,h.tape,h.output,h.size,fun k hk _=>h.block k hk⟩
def CntE(r:Bool×Nat)(g:Nat)(w:World)(e:Ending)(w':World):Prop:=
  e= .returned (.b r.1)∧Hid (w.grownBy w' (some g))∧Hid (Blk w' g 3 #[.i (r.2:Nat)])
def CntAt(f:Nat):Prop:=∀(T:TE) (v:Nd) (w0 w:World) (g m:Nat),InE w0 T v→Below w0.heap.size w0 w→w0.heap.size≤g→Blk w g 3 #[.i (m:Int)]→m≤200→f≤20→
  Calls Tryz.prog 116 #[v.val,.i (21-(f:Int)),.p g] w (CntE (cP f T m) g w)
theorem cnt1_p(f:Nat)(ih:CntAt f)(T:TE)(v:Nd)(w0 w:World)(g m bd bp:Nat)(hin:InE w0 T v)(hb:Below w0.heap.size w0 w)(hg:w0.heap.size≤g)(hB:Blk w g 3 #[.i (m:Int)])(hm:m≤200)(hf:f≤19)
 (hd:Blk w bd 3 #[.i (20-(f:Int))]) (hp:Blk w bp 186 #[.p g]):
 Calls Tryz.prog 154 #[v.val,.p bd,.p bp] w (CntE (!(cP f T m).1,(cP f T m).2) g w):=by
 have p:=hI hin;have b:=hI hb;have q:=hI hB;have c:=hI hd;have r:=hI hp;have s:=hI ih;clear hin hb hB hd hp ih;obtain⟨⟨u,n,d,x,k⟩,A,y,z⟩:=v
 obtain⟨D,i⟩:∃D:Int,D=20-(f:Int):=⟨_,rfl⟩
 rw[←i]at c;have F:1≤D∧D≤20:=(by omega);have j:D+1=21-(f:Int):=(by omega);have B:=hI j;clear i j;simp only[Nd.val]
 go_in
 go_upto_region 1 with(fail);generalize hw1:World.alloc _ _=w1;obtain⟨a,l⟩:=gn1 hw1;clear hw1;have o:=l.o.cell;have G:=(c.o.belowW a.o).cell;have H:=(r.o.belowW a.o).cell;have K:=hI (s.o T ⟨⟨u,n,d,x,k⟩,A,y,z⟩ w0 w1 g m p.o (b.o.trans (a.o.mono b.o.size)) hg (q.o.belowW a.o) hm (by omega));rw[←B.o]at K;clear o;have o:=l.o.cell;go_wp2_with fail;refine K.o.mono ?_;rintro e w5 ⟨rfl,C,E⟩;go_wp2;go_ret;exact⟨rfl,hI (grown_trans (grown_below _ a.o) C.o),E⟩
theorem idx_p(f:Nat)(ih:CntAt f)(T:TE)(v:Nd)(w0 w:World)(g m bd bp:Nat)(hin:InE w0 T v)(hb:Below w0.heap.size w0 w)(hg:w0.heap.size≤g)(hB:Blk w g 3 #[.i (m:Int)])(hm:m≤200)(hf:f≤19)
 (hd:Blk w bd 3 #[.i (20-(f:Int))]) (hp:Blk w bp 186 #[.p g]) (hgd:g≠bd) (hgp:g≠bp):
 Calls Tryz.prog 196 #[.l v.A v.len v.cap,.func (.func 154) #[] #[.p bd,.p bp]] w
  fun e w'=>∃r:Int,e= .returned (.i r)∧Hid (decide (0≤r)= !(goP (cP f) T.l m).1)∧Hid (w.grownBy w' (some g))∧Hid (Blk w' g 3 #[.i ((goP (cP f) T.l m).2:Nat)]):=by
 have S:=hI hin;have J:=hI hb;have U:=hI hB;have V:=hI hd;have W:=hI hp;have X:=hI ih;have B:=hI hin.length;have L:=hI (Nat.le_trans hin.caps.1 hin.caps.2);clear hin hb hB hd hp ih;obtain⟨⟨kd,n,d,nm,k⟩,A,len,cap⟩:=v;simp only at B L
 obtain⟨⟨u,y⟩,C⟩:∃r,goP (cP f) T.l m=r:=⟨_,rfl⟩
 rw[C];have Y:=hI C;clear C
 go_in
 go_wp2
 go_loopg [8] len (fun gg iv wr=>∃(j a:Nat),iv= .i j∧j≤len∧gg=len-j∧a≤200∧Hid (goP (cP f) (T.l.drop j) a=(u,y))∧Hid (w.grownBy wr (some g))∧Hid (Blk wr g 3 #[.i (a:Int)]))
 case atStart=>exact⟨0,m,rfl,by omega,by omega,hm,Y,hI (World.grownBy.refl _ _),U⟩
 obtain⟨j,a,rfl,hj,rfl,M,D,s,N⟩:=hrel;have c:=hI (J.o.grown s.o J.o.size (fun k hk=>by injection hk with hk;omega));have Z:=hI (V.o.grown s.o (by intro e;injection e with e;omega));have aa:=hI (W.o.grown s.o (by intro e;injection e with e;omega))
 by_cases hjl:j<len
 ·
  obtain⟨b,o,x,O,i,P,q⟩:=S.o.at_ j hjl;simp only at O;subst O;have q0:wr.cell? ⟨b,o+j*6,none⟩=some (.i x.h.kind):=(c.o.cell (p:=⟨b,_,none⟩) i).trans (q 0 _ rfl (by omega));have q1:wr.cell? ⟨b,o+j*6+1,none⟩=some (.i x.h.n):=(c.o.cell (p:=⟨b,_,none⟩) i).trans (q 1 _ rfl (by omega));have q2:wr.cell? ⟨b,o+j*6+2,none⟩=some (.i x.h.d):=(c.o.cell (p:=⟨b,_,none⟩) i).trans (q 2 _ rfl (by omega));have q3:wr.cell? ⟨b,o+j*6+3,none⟩=some (.string x.h.name):=(c.o.cell (p:=⟨b,_,none⟩) i).trans (q 3 _ rfl (by omega));have q4:wr.cell? ⟨b,o+j*6+4,none⟩=some (.i x.h.k):=(c.o.cell (p:=⟨b,_,none⟩) i).trans (q 4 _ rfl (by omega));have q5:wr.cell? ⟨b,o+j*6+5,none⟩=some (.l x.A x.len x.cap):=(c.o.cell (p:=⟨b,_,none⟩) i).trans (q 5 _ rfl (by omega));have n1:decide (j<len)=true:=decide_eq_true hjl;have ao:len≤9223372036854775807:=(by have:=L.o;unfold maxLen at this;omega);have K:=hI (cnt1_p f X.o _ x w0 wr g a bd bp P c.o hg N.o M hf Z.o aa.o);have Q:=hI (cP_le f (T.l.getD j default) a M)
  have E:=hI (show(if(cP f (T.l.getD j default) a).1=true then goP (cP f) (T.l.drop (j+1)) (cP f (T.l.getD j default) a).2 else(false,(cP f (T.l.getD j default) a).2))=(u,y)by
   have h:=D.o;rw[drop_get T.l j (by rw[B.o];exact hjl)]at h;unfold goP at h
   exact h)
  obtain⟨⟨r1,z⟩,R⟩:∃r,cP f (T.l.getD j default) a=r:=⟨_,rfl⟩
  rw[R]at Q E K;clear P q R i D
  cases r1 with
  | true=>
   have ad:z≤200:=Q.o.2 rfl;go_wp2_with fail;refine K.o.mono ?_;rintro e w5 ⟨rfl,F,G⟩;go_wp2
   go_roundg (len-(j+1))
   case measure=>omega
   case rel=>exact⟨j+1,z,by go_num,by omega,rfl,ad,(hI (show goP (cP f) (T.l.drop (j+1)) z=(u,y)from E.o)),hI (grown_trans s.o F.o),G⟩
  | false=>
   go_wp2_with fail;refine K.o.mono ?_;rintro e w5 ⟨rfl,F,G⟩;go_wp2;go_ret;obtain⟨H,I⟩:=Prod.mk.inj (show(false,z)=(u,y)from E.o);exact⟨j,rfl,hI (by rw[←H];simp),hI (grown_trans s.o F.o),by rw[←I];exact G⟩
 have ae:=hI (show(true,a)=(u,y)by
  have h:=D.o;rw[List.drop_eq_nil_of_le (by rw[B.o];omega)]at h
  exact h)
 have n1:decide (j<len)=false:=decide_eq_false hjl;go_wp2;go_ret;obtain⟨H,I⟩:=Prod.mk.inj ae.o;exact⟨-1,rfl,hI (by rw[←H];rfl),s,by rw[←I];exact N⟩
theorem has_p(f:Nat)(ih:CntAt f)(T:TE)(v:Nd)(w0 w:World)(g m bd bp:Nat)(hin:InE w0 T v)(hb:Below w0.heap.size w0 w)(hg:w0.heap.size≤g)(hB:Blk w g 3 #[.i (m:Int)])(hm:m≤200)(hf:f≤19)
 (hd:Blk w bd 3 #[.i (20-(f:Int))]) (hp:Blk w bp 186 #[.p g]) (hgd:g≠bd) (hgp:g≠bp):
 Calls Tryz.prog 153 #[.l v.A v.len v.cap,.func (.func 154) #[] #[.p bd,.p bp]] w
  fun e w'=>e= .returned (.b (!(goP (cP f) T.l m).1))∧Hid (w.grownBy w' (some g))∧Hid (Blk w' g 3 #[.i ((goP (cP f) T.l m).2:Nat)]):=by
 have K:=hI (idx_p f ih T v w0 w g m bd bp hin hb hg hB hm hf hd hp hgd hgp);clear hin hb hB hd hp ih hgd hgp;obtain⟨R,hR⟩:=eX (goP (cP f) T.l m);rw[←hR]at K ⊢;clear hR
 go_in
 go_wp2_with fail;refine K.o.mono ?_;rintro e w2 ⟨r,rfl,HR,HG,HB⟩;go_wp2;go_ret;exact⟨ret_bool HR.o,HG,HB⟩
theorem boxes3(w:World)(c:Array Value)(t:TypeId)(D:Value)(t2:TypeId)(p:Value)(t3:TypeId)(w1:World)(h:w1=((w.alloc (Obj.cells c t)).alloc (Obj.cells #[D] t2)).alloc (Obj.cells #[p] t3)):
 Below w.heap.size w w1∧Blk w1 w.heap.size t c∧Blk w1 (w.heap.size+1) t2 #[D]∧Blk w1 (w.heap.size+1+1) t3 #[p]:=by
 subst h;have s1:(w.alloc (Obj.cells c t)).heap.size=w.heap.size+1:=World.size_alloc _ _;have s2:((w.alloc (Obj.cells c t)).alloc (Obj.cells #[D] t2)).heap.size=w.heap.size+1+1:=(by rw[World.size_alloc,s1]);refine⟨(((Below.refl _ _).alloc (Nat.le_refl _) _).alloc (by rw[s1];omega) _).alloc (by rw[s2];omega) _,((Blk.new w t c).alloc _).alloc _,?_,?_⟩
 ·
  have:=(Blk.new (w.alloc (Obj.cells c t)) t2 #[D]).alloc (Obj.cells #[p] t3)
  rwa [s1]at this
 have:=Blk.new ((w.alloc (Obj.cells c t)).alloc (Obj.cells #[D] t2)) t3 #[p]
 rwa [s2]at this
theorem count_at:∀f,CntAt f:=by
 intro f
 induction f with
 | zero=>
  intro T v w0 w g m hin hb hg hB hm hf;have H:=hI hB;clear hin hb hB;have e0:cP 0 T m=(false,m+1):=rfl;rw[e0];rw[show(21:Int)-((0:Nat):Int)=21 by rfl];obtain⟨⟨E,n,d,F,k⟩,A,G,p⟩:=v;simp only[Nd.val];have X:g<w.heap.size:=H.o.lt
  go_in
  go_upto_region 1 with(fail);obtain⟨s,i⟩:=eX (((w.alloc (Obj.cells #[.i E,.i n,.i d,.string F,.i k,.l A G p] 57)).alloc (Obj.cells #[.i 21] 3)).alloc (Obj.cells #[.p g] 186));obtain⟨j,u,x,y⟩:=boxes3 _ _ _ _ _ _ _ _ i;rw[←i];clear i;have N:=hI j;have O:=hI u;have P:=hI x;have z:=hI y;have b:=hI (H.o.belowW j);clear j u x y;have q:=z.o.cell;have r:=b.o.cell;have Q:=b.o.frozen;go_upto_region 2 with(fail);rw[b.o.setCell_eq];obtain⟨c,a⟩:=eX (putB s g 3 (#[Value.int .i64 (m:Int)].setIfInBounds 0 (.i ((m:Int)+1))));have R:=hI (show w.grownBy c (some g)by rw[a];exact grown_trans (grown_below _ N.o) (putB_grown _ _ _ _));have o:=hI (show s.grownBy c (some g)by rw[a];exact putB_grown _ _ _ _);have B:=hI (show Blk c g 3 #[.i ((m+1:Nat):Int)]by rw[a];exact b.o.put _);rw[←a];clear a q r Q;have I:=hI (O.o.grown o.o (by intro e;injection e with e;omega));have J:=hI (P.o.grown o.o (by intro e;injection e with e;omega));have L:=hI (z.o.grown o.o (by intro e;injection e with e;omega));have q:=L.o.cell;have V:=J.o.cell;have r:=B.o.cell;have S:=I.o.cell;go_wp2;go_ret
  exact⟨rfl,R,B⟩
 | succ f ih=>
  intro T v w0 w g m hin hb hg hB hm hf;have H:=hI hB;have af:=hI hin;have Z:=hI hb;have aa:=hI hin.ok;have W:=hI (show cP (f+1) T m=if m+1≤200∧nodeB nameP v.h v.len=true then goP (cP f) T.l (m+1)else(false,m+1)by rw[cP_succ,hin.hd,hin.length]);have IH:=hI ih;obtain⟨C,hC⟩:=eX (cP (f+1) T m);rw[←hC]at W ⊢
  obtain⟨D,hD⟩:∃D:Int,D=21-((f+1:Nat):Int):=⟨_,rfl⟩
  rw[←hD];have HD:=hI (show D=20-(f:Int)by omega);have al:1≤D∧D≤20:=(by omega);have am:decide (20<D)=false:=dF;clear hin hb hB ih hC hD
  by_cases h2:m+1≤200
  case neg=>
   have U:=hI (show C=(false,m+1)by rw[W.o,if_neg (fun h=>h2 h.1)]);have ai:decide ((200:Int)<(m:Int)+1)=true:=dT;obtain⟨⟨E,n,d,F,k⟩,A,G,p⟩:=v;simp only[Nd.val];have X:g<w.heap.size:=H.o.lt
   go_in
   go_upto_region 1 with(fail);obtain⟨s,i⟩:=eX (((w.alloc (Obj.cells #[.i E,.i n,.i d,.string F,.i k,.l A G p] 57)).alloc (Obj.cells #[.i D] 3)).alloc (Obj.cells #[.p g] 186));obtain⟨j,u,x,y⟩:=boxes3 _ _ _ _ _ _ _ _ i;rw[←i];clear i;have N:=hI j;have O:=hI u;have P:=hI x;have z:=hI y;have b:=hI (H.o.belowW j);clear j u x y;have q:=z.o.cell;have r:=b.o.cell;have Q:=b.o.frozen;go_upto_region 2 with(fail);rw[b.o.setCell_eq];obtain⟨c,a⟩:=eX (putB s g 3 (#[Value.int .i64 (m:Int)].setIfInBounds 0 (.i ((m:Int)+1))));have R:=hI (show w.grownBy c (some g)by rw[a];exact grown_trans (grown_below _ N.o) (putB_grown _ _ _ _));have o:=hI (show s.grownBy c (some g)by rw[a];exact putB_grown _ _ _ _);have B:=hI (show Blk c g 3 #[.i ((m+1:Nat):Int)]by rw[a];exact b.o.put _);rw[←a];clear a q r Q;have I:=hI (O.o.grown o.o (by intro e;injection e with e;omega));have J:=hI (P.o.grown o.o (by intro e;injection e with e;omega));have L:=hI (z.o.grown o.o (by intro e;injection e with e;omega));have q:=L.o.cell;have V:=J.o.cell;have r:=B.o.cell;have S:=I.o.cell;go_wp2;go_ret;rw[U.o];exact⟨rfl,R,B⟩
  have ai:decide ((200:Int)<(m:Int)+1)=false:=dF
  cases hnd:nodeB nameP v.h v.len with
  | false=>
   have U:=hI (show C=(false,m+1)by rw[W.o,hnd,if_neg (by simp)]);have Y:=hI hnd;clear hnd;obtain⟨⟨E,n,d,F,k⟩,A,G,p⟩:=v;simp only[Nd.val];have X:g<w.heap.size:=H.o.lt
   go_in
   go_upto_region 1 with(fail);obtain⟨s,i⟩:=eX (((w.alloc (Obj.cells #[.i E,.i n,.i d,.string F,.i k,.l A G p] 57)).alloc (Obj.cells #[.i D] 3)).alloc (Obj.cells #[.p g] 186));obtain⟨j,u,x,y⟩:=boxes3 _ _ _ _ _ _ _ _ i;rw[←i];clear i;have N:=hI j;have O:=hI u;have P:=hI x;have z:=hI y;have b:=hI (H.o.belowW j);clear j u x y;have q:=z.o.cell;have r:=b.o.cell;have Q:=b.o.frozen;go_upto_region 2 with(fail);rw[b.o.setCell_eq];obtain⟨c,a⟩:=eX (putB s g 3 (#[Value.int .i64 (m:Int)].setIfInBounds 0 (.i ((m:Int)+1))));have R:=hI (show w.grownBy c (some g)by rw[a];exact grown_trans (grown_below _ N.o) (putB_grown _ _ _ _));have o:=hI (show s.grownBy c (some g)by rw[a];exact putB_grown _ _ _ _);have B:=hI (show Blk c g 3 #[.i ((m+1:Nat):Int)]by rw[a];exact b.o.put _);rw[←a];clear a q r Q;have I:=hI (O.o.grown o.o (by intro e;injection e with e;omega));have J:=hI (P.o.grown o.o (by intro e;injection e with e;omega));have L:=hI (z.o.grown o.o (by intro e;injection e with e;omega));have q:=L.o.cell;have V:=J.o.cell;have r:=B.o.cell;have S:=I.o.cell;go_wp2_with fail;refine(node_p ⟨⟨E,n,d,F,k⟩,A,G,p⟩ c aa.o).mono ?_;rintro e w3 ⟨rfl,M⟩;rw[Y.o];go_wp2;go_ret;rw[U.o]
   exact⟨rfl,hI (grown_trans R.o (grown_below _ M.o)),B.o.b9 M⟩
  | true=>
   have U:=hI (show C=goP (cP f) T.l (m+1)by rw[W.o,hnd,if_pos ⟨h2,rfl⟩]);have Y:=hI hnd;clear hnd;obtain⟨⟨E,n,d,F,k⟩,A,G,p⟩:=v;simp only[Nd.val];have X:g<w.heap.size:=H.o.lt
   go_in
   go_upto_region 1 with(fail);obtain⟨s,i⟩:=eX (((w.alloc (Obj.cells #[.i E,.i n,.i d,.string F,.i k,.l A G p] 57)).alloc (Obj.cells #[.i D] 3)).alloc (Obj.cells #[.p g] 186));obtain⟨j,u,x,y⟩:=boxes3 _ _ _ _ _ _ _ _ i;rw[←i];clear i;have N:=hI j;have O:=hI u;have P:=hI x;have z:=hI y;have b:=hI (H.o.belowW j);clear j u x y;have q:=z.o.cell;have r:=b.o.cell;have Q:=b.o.frozen;go_upto_region 2 with(fail);rw[b.o.setCell_eq];obtain⟨c,a⟩:=eX (putB s g 3 (#[Value.int .i64 (m:Int)].setIfInBounds 0 (.i ((m:Int)+1))));have R:=hI (show w.grownBy c (some g)by rw[a];exact grown_trans (grown_below _ N.o) (putB_grown _ _ _ _));have o:=hI (show s.grownBy c (some g)by rw[a];exact putB_grown _ _ _ _);have B:=hI (show Blk c g 3 #[.i ((m+1:Nat):Int)]by rw[a];exact b.o.put _);rw[←a];clear a q r Q;have I:=hI (O.o.grown o.o (by intro e;injection e with e;omega));have J:=hI (P.o.grown o.o (by intro e;injection e with e;omega));have L:=hI (z.o.grown o.o (by intro e;injection e with e;omega));have q:=L.o.cell;have V:=J.o.cell;have r:=B.o.cell;have S:=I.o.cell;go_wp2_with fail;refine(node_p ⟨⟨E,n,d,F,k⟩,A,G,p⟩ c aa.o).mono ?_;rintro e w3 ⟨rfl,M⟩;rw[Y.o];have ad:=hI (grown_trans R.o (grown_below _ M.o));clear S V q r;have S:=(I.o.belowW M.o).cell
   have an:∀(fn:Fn) (first p:Array Value) (w:World),(Instr.makeFunc fn first p).run Tryz.prog w= .ok (.func fn first p) w:=fun _ _ _ _=>rfl
   go_wp2_with fail;refine(has_p f IH.o T ⟨⟨E,n,d,F,k⟩,A,G,p⟩ w0 w3 g (m+1) (w.heap.size+1) (w.heap.size+1+1) af.o (Z.o.grown ad.o Z.o.size (fun k hk=>by injection hk with hk;omega)) hg (B.o.belowW M.o) h2 (by omega) (by rw[←HD.o];exact(J.o.belowW M.o)) (L.o.belowW M.o) (by omega) (by omega)).mono ?_;rw[←U.o];rintro e w4 ⟨rfl,aj,ak⟩;go_wp2;go_ret;exact⟨ret_bool (by simp),hI (grown_trans ad.o aj.o),ak⟩
def okE(T:TE):Bool:=decide (cR 20 T≤200)
theorem okE_p(T:TE):(cP 20 T 0).1=okE T:=valid_eq nameP T
theorem boxes2(w:World)(c:Array Value)(t:TypeId)(D:Value)(t2:TypeId)(w1:World)(h:w1=(w.alloc (Obj.cells c t)).alloc (Obj.cells #[D] t2)):
 Below w.heap.size w w1∧Blk w1 w.heap.size t c∧Blk w1 (w.heap.size+1) t2 #[D]:=by
 subst h;have s1:(w.alloc (Obj.cells c t)).heap.size=w.heap.size+1:=World.size_alloc _ _;refine⟨((Below.refl _ _).alloc (Nat.le_refl _) _).alloc (by rw[s1];omega) _,(Blk.new w t c).alloc _,?_⟩;have:=Blk.new (w.alloc (Obj.cells c t)) t2 #[D]
 rwa [s1]at this
theorem eValid_p(T:TE)(v:Nd)(w:World)(hin:InE w T v):Calls Tryz.prog 73 #[v.val] w (RetB (.b (okE T)) w):=by
 have HIN:=hI hin;rw[←okE_p];clear hin;obtain⟨R,hR⟩:=eX (cP 20 T 0);rw[←hR];have HR:=hI hR;clear hR;obtain⟨⟨kd,n,d,nm,k⟩,A,len,cap⟩:=v;simp only[Nd.val]
 go_in
 go_wp2_with fail;obtain⟨w1,hw1⟩:=eX ((w.alloc (Obj.cells #[.i kd,.i n,.i d,.string nm,.i k,.l A len cap] 57)).alloc (Obj.cells #[.i 0] 3));obtain⟨bw1,f1,d1⟩:=boxes2 _ _ _ _ _ _ hw1;rw[←hw1];clear hw1;have HW1:=hI bw1
 have K:Calls Tryz.prog 116 #[.agg #[.i kd,.i n,.i d,.string nm,.i k,.l A len cap],.i 1,.pointer (some ⟨w.heap.size+1,0,none⟩)] w1 (CntE (cP 20 T 0) (w.heap.size+1) w1):=
  count_at 20 T ⟨⟨kd,n,d,nm,k⟩,A,len,cap⟩ w w1 (w.heap.size+1) 0 HIN.o bw1 (by omega) d1 (by omega) (by omega)
 refine K.mono ?_;rw[←HR.o];rintro e w2 ⟨rfl,HG,HB⟩;go_wp2;go_ret;exact⟨rfl,hI (HW1.o.grown HG.o HW1.o.size (fun k hk=>by injection hk with hk;omega))⟩
end Go.Proofs.YtgcjmhjjpbcfmaaGreatDoor
namespace Go.Proofs.YtgcjmhjjpbcfmaaGreatDoor
open Go.RowKit Go.Fl Go.Fl.Fm
def sE:ByteArray:=⟨#[101,120,112]⟩
def sL:ByteArray:=⟨#[108,111,103]⟩
def sS:ByteArray:=⟨#[115,105,110]⟩
def sC:ByteArray:=⟨#[99,111,115]⟩
def sR:ByteArray:=⟨#[115,113,114,116]⟩
def fnEs:Array MapEntry:=#[⟨.i 9,.string sE,0⟩,⟨.i 10,.string sL,1⟩,⟨.i 11,.string sS,2⟩,⟨.i 12,.string sC,3⟩,⟨.i 13,.string sR,4⟩]
def FnMap(w:World)(g:Nat):Prop:=w.heap[g]? =some (.map fnEs 5)
theorem FnMap.lt{w:World}{g:Nat}(h:FnMap w g):g<w.heap.size:=(Array.getElem?_eq_some_iff.1 h).1
theorem FnMap.belowW{w w':World}{g:Nat}(h:FnMap w g)(hb:Below w.heap.size w w'):FnMap w' g:=(hb.block g h.lt).trans h
theorem FnMap.b9{w w':World}{g:Nat}(h:FnMap w g)(hb:Go.RowKit.Hid (Go.RowKit.Below w.heap.size w w')):Go.RowKit.Hid (FnMap w' g):=hI (FnMap.belowW h hb.o)
end Go.Proofs.YtgcjmhjjpbcfmaaGreatDoor
namespace Go.Proofs.YtgcjmhjjpbcfmaaGreatDoor
open Go.RowKit Go.Fl Go.Fl.Nm Go.Fl.Fm Go.Fl.Rt
structure ElAt (w:World) (b off:Nat) (x:Nd):Prop where
  lt:b<w.heap.size
  c:∀(j:Nat) (u:Value),x.cells[j]? =some u→w.cell? ⟨b,off+j,none⟩=some u
theorem ElAt.belowW{w w':World}{b off:Nat}{x:Nd}(h:ElAt w b off x)(hb:Below w.heap.size w w'):ElAt w' b off x:=
 ⟨Nat.lt_of_lt_of_le h.lt hb.size,fun j u hu=>(hb.cell (p:=⟨b,off+j,none⟩) h.lt).trans (h.c j u hu)⟩
theorem ElAt.b9{w w':World}{b off:Nat}{x:Nd}(h:ElAt w b off x)(hb:Go.RowKit.Hid (Go.RowKit.Below w.heap.size w w')):Go.RowKit.Hid (ElAt w' b off x):=hI (ElAt.belowW h hb.o)
theorem ElAt.c0{w:World}{b off:Nat}{x:Nd}(h:ElAt w b off x):w.cell? ⟨b,off,none⟩=some (.i x.h.kind):=h.c 0 _ rfl
theorem ElAt.c1{w:World}{b off:Nat}{x:Nd}(h:ElAt w b off x):w.cell? ⟨b,off+1,none⟩=some (.i x.h.n):=h.c 1 _ rfl
theorem ElAt.c2{w:World}{b off:Nat}{x:Nd}(h:ElAt w b off x):w.cell? ⟨b,off+2,none⟩=some (.i x.h.d):=h.c 2 _ rfl
theorem ElAt.c3{w:World}{b off:Nat}{x:Nd}(h:ElAt w b off x):w.cell? ⟨b,off+3,none⟩=some (.string x.h.name):=h.c 3 _ rfl
theorem ElAt.c4{w:World}{b off:Nat}{x:Nd}(h:ElAt w b off x):w.cell? ⟨b,off+4,none⟩=some (.i x.h.k):=h.c 4 _ rfl
theorem ElAt.c5{w:World}{b off:Nat}{x:Nd}(h:ElAt w b off x):w.cell? ⟨b,off+5,none⟩=some (.l x.A x.len x.cap):=h.c 5 _ rfl
theorem InE.one{w:World}{T:TE}{v:Nd}(h:InE w T v)(hl:v.len=1):∃b o x,v.A=some ⟨b,o,none⟩∧InE w T.a x∧ElAt w b o x:=by
 obtain⟨b,o,x,hA,hb,hx,hc⟩:=h.at_ 0 (by omega);refine⟨b,o,x,hA,?_,hb,fun j u hu=>?_⟩
 ·
  have:T.a=T.l.getD 0 default:=by unfold TE.a;cases T.l<;>rfl
  rw[this];exact hx
 have hj:j<6:=by
  have:=(List.getElem?_eq_some_iff.1 hu).1;exact this
 have:=hc j u hu hj
 rwa [Nat.zero_mul,Nat.zero_add]at this
theorem InE.two{w:World}{T:TE}{v:Nd}(h:InE w T v)(hl:v.len=2):∃b o x y,v.A=some ⟨b,o,none⟩∧InE w T.a x∧InE w T.b y∧ElAt w b o x∧ElAt w b (o+6) y:=by
 obtain⟨b,o,x,hA,hb,hx,hc⟩:=h.at_ 0 (by omega);obtain⟨b',o',y,hA',hb',hy,hc'⟩:=h.at_ 1 (by omega);rw[hA]at hA';have e:=Option.some.inj hA';injection e with e1 e2 e3;subst e1 e2;refine⟨b,o,x,y,hA,?_,?_,⟨hb,fun j u hu=>?_⟩,⟨hb',fun j u hu=>?_⟩⟩
 ·
  have:T.a=T.l.getD 0 default:=by unfold TE.a;cases T.l<;>rfl
  rw[this];exact hx
 ·
  have:T.b=T.l.getD 1 default:=by
   unfold TE.b
   cases T.l with
   | nil=>rfl
   | cons p q=>cases q<;>rfl
  rw[this];exact hy
 ·
  have hj:j<6:=(List.getElem?_eq_some_iff.1 hu).1;have:=hc j u hu hj
  rwa [Nat.zero_mul,Nat.zero_add]at this
 have hj:j<6:=(List.getElem?_eq_some_iff.1 hu).1;have:=hc' j u hu hj
 rwa [Nat.one_mul,←Nat.add_assoc]at this
theorem tkY{P:Program}{md:Region.Mode}{ops:Array Oper}{Q:Exit→Act→World→Prop}{S:World→Prop}(i:Nat){oi:Oper}{v:Value}{fuel:Nat}{listed:Array Bool}{a:Act}{w:World}(hi:ops[i]? =some oi)
 (hy:YieldsIf P ops S oi v a) (h:wpAnyH P md ops Q S fuel (listed.setIfInBounds i true) (a.put oi.dst v) w)
 (hs:Region.noSelect ops=true:=by kernel_rfl) (hf:Region.free md ops listed i=true:=by kernel_rfl) (hr:(Region.ready md ops listed).contains i=true:=by kernel_rfl)
 (hQ:∀c a w,Q (.panic c) (a.put oi.dst v) w→Q (.panic c) a w:=by exact fun _ _ _ h=>h) (hS:S w:=by assumption):wpAnyH P md ops Q S (fuel+1) listed a w:=
 wpAnyH_take hi hs hf hr hQ hy hS h
theorem below_dr(w:World):Below w.heap.size w w.drew:=below_drewN (Below.refl _ _) 1
end Go.Proofs.YtgcjmhjjpbcfmaaGreatDoor
namespace Go.Fl
open Go.RowKit
theorem Blk.all2{w:World}{g:Nat}{t:TypeId}{a0 a1:Value}(h:Blk w g t #[a0,a1]):w.cell? ⟨g,0,none⟩=some a0∧w.frozen? ⟨g,0,none⟩=false∧w.cell? ⟨g,1,none⟩=some a1∧w.frozen? ⟨g,1,none⟩=false:=
 ⟨h.cell 0,h.frozen 0,h.cell 1,h.frozen 1⟩
theorem Blk.all3{w:World}{g:Nat}{t:TypeId}{a0 a1 a2:Value}(h:Blk w g t #[a0,a1,a2]):w.cell? ⟨g,0,none⟩=some a0∧w.frozen? ⟨g,0,none⟩=false∧w.cell? ⟨g,1,none⟩=some a1∧w.frozen? ⟨g,1,none⟩=false∧w.cell? ⟨g,2,none⟩=some a2∧w.frozen? ⟨g,2,none⟩=false:=
 ⟨h.cell 0,h.frozen 0,h.cell 1,h.frozen 1,h.cell 2,h.frozen 2⟩
theorem Blk.all4{w:World}{g:Nat}{t:TypeId}{a0 a1 a2 a3:Value}(h:Blk w g t #[a0,a1,a2,a3]):w.cell? ⟨g,0,none⟩=some a0∧w.frozen? ⟨g,0,none⟩=false∧w.cell? ⟨g,1,none⟩=some a1∧w.frozen? ⟨g,1,none⟩=false∧w.cell? ⟨g,2,none⟩=some a2∧w.frozen? ⟨g,2,none⟩=false∧w.cell? ⟨g,3,none⟩=some a3∧w.frozen? ⟨g,3,none⟩=false:=
 ⟨h.cell 0,h.frozen 0,h.cell 1,h.frozen 1,h.cell 2,h.frozen 2,h.cell 3,h.frozen 3⟩
theorem Blk.all7{w:World}{g:Nat}{t:TypeId}{a0 a1 a2 a3 a4 a5 a6:Value}(h:Blk w g t #[a0,a1,a2,a3,a4,a5,a6]):w.cell? ⟨g,0,none⟩=some a0∧w.frozen? ⟨g,0,none⟩=false∧w.cell? ⟨g,1,none⟩=some a1∧w.frozen? ⟨g,1,none⟩=false∧w.cell? ⟨g,2,none⟩=some a2∧w.frozen? ⟨g,2,none⟩=false∧w.cell? ⟨g,3,none⟩=some a3∧w.frozen? ⟨g,3,none⟩=false∧w.cell? ⟨g,4,none⟩=some a4∧w.frozen? ⟨g,4,none⟩=false∧w.cell? ⟨g,5,none⟩=some a5∧w.frozen? ⟨g,5,none⟩=false∧w.cell? ⟨g,6,none⟩=some a6∧w.frozen? ⟨g,6,none⟩=false:=
 ⟨h.cell 0,h.frozen 0,h.cell 1,h.frozen 1,h.cell 2,h.frozen 2,h.cell 3,h.frozen 3,h.cell 4,h.frozen 4,h.cell 5,h.frozen 5,h.cell 6,h.frozen 6⟩
theorem tkW{P:Program}{md:Region.Mode}{ops:Array Oper}{Q:Exit→Act→World→Prop}{S:World→Prop}(i:Nat){oi:Oper}{v:Value}{fuel:Nat}{listed l':Array Bool}{a a':Act}{w:World}(h:wpAnyH P md ops Q S fuel l' a' w)
 (hi:ops[i]? =some oi:=by rfl)
 (hy:YieldsIf P ops S oi v a:=by exact .inl ⟨by rfl,by intro w9 hSw;(try dsimp only at hSw);go_simp;(try with_reducible rfl)⟩)
 (ha:a.put oi.dst v=a':=by(try simp only[Act.put,Lj,Lk,Lq,Ly,Lz,Lv]);exact rfl)
 (hl:listed.setIfInBounds i true=l':=by(try simp only[Lj,Lk,Lq]);exact rfl)
 (hs:Region.noSelect ops=true:=by kernel_rfl) (hf:Region.free md ops listed i=true:=by kernel_rfl) (hr:(Region.ready md ops listed).contains i=true:=by kernel_rfl)
 (hQ:∀c a w,Q (.panic c) (a.put oi.dst v) w→Q (.panic c) a w:=by exact fun _ _ _ h=>h) (hS:S w:=by assumption):wpAnyH P md ops Q S (fuel+1) listed a w:=
 wpAnyH_take hi hs hf hr hQ hy hS (by rw[ha,hl];exact h)
theorem wr1{P:Program}{md:Region.Mode}{ops:Array Oper}{Q:Exit→Act→World→Prop}{S:World→Prop}(i:Nat){o:Oper}{fuel:Nat}{listed:Array Bool}{a:Act}{w:World}(h:∀K':Act→World→Prop,Shut (∀a w,S w→(S w→wpAnyH P md ops Q S fuel (listed.setIfInBounds i true) a w)→K' a w)→if Region.wanted o (yielded ops a.tmps)=true then Oper.wp P o a w K' Q else K' (a.put o.dst undef) w)(ho:ops[i]? =some o:=by rfl)(hr:Region.ready md ops listed=[i]:=by kernel_rfl):wpAnyH P md ops Q S (fuel+1) listed a w:=wpAnyH_ready hr (by simp) (AllReadyH.cons ho h AllReadyH.nil)
theorem tkV{P:Program}{md:Region.Mode}{ops:Array Oper}{Q:Exit→Act→World→Prop}{S:World→Prop}(i:Nat){oi:Oper}{v:Value}{fuel:Nat}{listed l':Array Bool}{a a':Act}{w:World}(h:wpAnyH P md ops Q S fuel l' a' w)
 (hi:ops[i]? =some oi:=by rfl)
 (hy:YieldsIf P ops S oi v a:=by exact .inr ⟨by rfl,rfl⟩)
 (ha:a.put oi.dst v=a':=by(try simp only[Act.put,Lj,Lk,Lq,Ly,Lz,Lv]);exact rfl)
 (hl:listed.setIfInBounds i true=l':=by(try simp only[Lj,Lk,Lq]);exact rfl)
 (hs:Region.noSelect ops=true:=by kernel_rfl) (hf:Region.free md ops listed i=true:=by kernel_rfl) (hr:(Region.ready md ops listed).contains i=true:=by kernel_rfl)
 (hQ:∀c a w,Q (.panic c) (a.put oi.dst v) w→Q (.panic c) a w:=by exact fun _ _ _ h=>h) (hS:S w:=by assumption):wpAnyH P md ops Q S (fuel+1) listed a w:=
 wpAnyH_take hi hs hf hr hQ hy hS (by rw[ha,hl];exact h)
theorem Blk.all6{w:World}{g:Nat}{t:TypeId}{a0 a1 a2 a3 a4 a5:Value}(h:Blk w g t #[a0,a1,a2,a3,a4,a5]):w.cell? ⟨g,0,none⟩=some a0∧w.frozen? ⟨g,0,none⟩=false∧w.cell? ⟨g,1,none⟩=some a1∧w.frozen? ⟨g,1,none⟩=false∧w.cell? ⟨g,2,none⟩=some a2∧w.frozen? ⟨g,2,none⟩=false∧w.cell? ⟨g,3,none⟩=some a3∧w.frozen? ⟨g,3,none⟩=false∧w.cell? ⟨g,4,none⟩=some a4∧w.frozen? ⟨g,4,none⟩=false∧w.cell? ⟨g,5,none⟩=some a5∧w.frozen? ⟨g,5,none⟩=false:=
 ⟨h.cell 0,h.frozen 0,h.cell 1,h.frozen 1,h.cell 2,h.frozen 2,h.cell 3,h.frozen 3,h.cell 4,h.frozen 4,h.cell 5,h.frozen 5⟩
theorem Blk.all9{w:World}{g:Nat}{t:TypeId}{a0 a1 a2 a3 a4 a5 a6 a7 a8:Value}(h:Blk w g t #[a0,a1,a2,a3,a4,a5,a6,a7,a8]):w.cell? ⟨g,0,none⟩=some a0∧w.frozen? ⟨g,0,none⟩=false∧w.cell? ⟨g,1,none⟩=some a1∧w.frozen? ⟨g,1,none⟩=false∧w.cell? ⟨g,2,none⟩=some a2∧w.frozen? ⟨g,2,none⟩=false∧w.cell? ⟨g,3,none⟩=some a3∧w.frozen? ⟨g,3,none⟩=false∧w.cell? ⟨g,4,none⟩=some a4∧w.frozen? ⟨g,4,none⟩=false∧w.cell? ⟨g,5,none⟩=some a5∧w.frozen? ⟨g,5,none⟩=false∧w.cell? ⟨g,6,none⟩=some a6∧w.frozen? ⟨g,6,none⟩=false∧w.cell? ⟨g,7,none⟩=some a7∧w.frozen? ⟨g,7,none⟩=false∧w.cell? ⟨g,8,none⟩=some a8∧w.frozen? ⟨g,8,none⟩=false:=
 ⟨h.cell 0,h.frozen 0,h.cell 1,h.frozen 1,h.cell 2,h.frozen 2,h.cell 3,h.frozen 3,h.cell 4,h.frozen 4,h.cell 5,h.frozen 5,h.cell 6,h.frozen 6,h.cell 7,h.frozen 7,h.cell 8,h.frozen 8⟩
theorem Blk.all5{w:World}{g:Nat}{t:TypeId}{a0 a1 a2 a3 a4:Value}(h:Blk w g t #[a0,a1,a2,a3,a4]):w.cell? ⟨g,0,none⟩=some a0∧w.frozen? ⟨g,0,none⟩=false∧w.cell? ⟨g,1,none⟩=some a1∧w.frozen? ⟨g,1,none⟩=false∧w.cell? ⟨g,2,none⟩=some a2∧w.frozen? ⟨g,2,none⟩=false∧w.cell? ⟨g,3,none⟩=some a3∧w.frozen? ⟨g,3,none⟩=false∧w.cell? ⟨g,4,none⟩=some a4∧w.frozen? ⟨g,4,none⟩=false:=
 ⟨h.cell 0,h.frozen 0,h.cell 1,h.frozen 1,h.cell 2,h.frozen 2,h.cell 3,h.frozen 3,h.cell 4,h.frozen 4⟩
theorem Blk.cs5{w:World}{g:Nat}{t:TypeId}{a0 a1 a2 a3 a4:Value}(h:Blk w g t #[a0,a1,a2,a3,a4]):w.cell? ⟨g,0,none⟩=some a0∧w.cell? ⟨g,1,none⟩=some a1∧w.cell? ⟨g,2,none⟩=some a2∧w.cell? ⟨g,3,none⟩=some a3∧w.cell? ⟨g,4,none⟩=some a4:=
 ⟨h.cell 0,h.cell 1,h.cell 2,h.cell 3,h.cell 4⟩
theorem Blk.cs7{w:World}{g:Nat}{t:TypeId}{a0 a1 a2 a3 a4 a5 a6:Value}(h:Blk w g t #[a0,a1,a2,a3,a4,a5,a6]):w.cell? ⟨g,0,none⟩=some a0∧w.cell? ⟨g,1,none⟩=some a1∧w.cell? ⟨g,2,none⟩=some a2∧w.cell? ⟨g,3,none⟩=some a3∧w.cell? ⟨g,4,none⟩=some a4∧w.cell? ⟨g,5,none⟩=some a5∧w.cell? ⟨g,6,none⟩=some a6:=
 ⟨h.cell 0,h.cell 1,h.cell 2,h.cell 3,h.cell 4,h.cell 5,h.cell 6⟩
theorem Blk.cs9{w:World}{g:Nat}{t:TypeId}{a0 a1 a2 a3 a4 a5 a6 a7 a8:Value}(h:Blk w g t #[a0,a1,a2,a3,a4,a5,a6,a7,a8]):w.cell? ⟨g,0,none⟩=some a0∧w.cell? ⟨g,1,none⟩=some a1∧w.cell? ⟨g,2,none⟩=some a2∧w.cell? ⟨g,3,none⟩=some a3∧w.cell? ⟨g,4,none⟩=some a4∧w.cell? ⟨g,5,none⟩=some a5∧w.cell? ⟨g,6,none⟩=some a6∧w.cell? ⟨g,7,none⟩=some a7∧w.cell? ⟨g,8,none⟩=some a8:=
 ⟨h.cell 0,h.cell 1,h.cell 2,h.cell 3,h.cell 4,h.cell 5,h.cell 6,h.cell 7,h.cell 8⟩
section
variable {w:World} {g:Nat} {t:TypeId}
theorem pst2{a b:Value}(hB:Blk w g t #[a,b])(a' b':Value):(w.setCell ⟨g,0,none⟩ a').setCell ⟨g,1,none⟩ b'=putB w g t #[a',b']:=by
 rw[hB.setCell_eq 0 a',(hB.put _).setCell_eq 1 b',putB_putB]
 rfl
theorem pst4{a b c d:Value}(hB:Blk w g t #[a,b,c,d])(a' b' c' d':Value):(((w.setCell ⟨g,0,none⟩ a').setCell ⟨g,1,none⟩ b').setCell ⟨g,2,none⟩ c').setCell ⟨g,3,none⟩ d'=putB w g t #[a',b',c',d']:=by
 rw[hB.setCell_eq 0 a',(hB.put _).setCell_eq 1 b',putB_putB,(hB.put _).setCell_eq 2 c',putB_putB,(hB.put _).setCell_eq 3 d',putB_putB]
 rfl
theorem pst6{a b c d e f:Value}(hB:Blk w g t #[a,b,c,d,e,f])(a' b' c' d' e' f':Value):
 (((((w.setCell ⟨g,0,none⟩ a').setCell ⟨g,1,none⟩ b').setCell ⟨g,2,none⟩ c').setCell ⟨g,3,none⟩ d').setCell ⟨g,4,none⟩ e').setCell ⟨g,5,none⟩ f'=putB w g t #[a',b',c',d',e',f']:=by
 rw[hB.setCell_eq 0 a',(hB.put _).setCell_eq 1 b',putB_putB,(hB.put _).setCell_eq 2 c',putB_putB,(hB.put _).setCell_eq 3 d',putB_putB,(hB.put _).setCell_eq 4 e',putB_putB,(hB.put _).setCell_eq 5 f',putB_putB]
 rfl
end
structure Ct (w:World) (b off:Nat) (cs:List Value):Prop where
  lt:b<w.heap.size
  c:∀(j:Nat) (u:Value),cs[j]? =some u→w.cell? ⟨b,off+j,none⟩=some u
theorem Ct.belowW{w w':World}{b off:Nat}{cs:List Value}(h:Ct w b off cs)(hb:Below w.heap.size w w'):Ct w' b off cs:=
 ⟨Nat.lt_of_lt_of_le h.lt hb.size,fun j u hu=>(hb.cell (p:=⟨b,off+j,none⟩) h.lt).trans (h.c j u hu)⟩
theorem Ct.b9{w w':World}{b off:Nat}{cs:List Value}(h:Ct w b off cs)(hb:Go.RowKit.Hid (Go.RowKit.Below w.heap.size w w')):Go.RowKit.Hid (Ct w' b off cs):=hI (Ct.belowW h hb.o)
theorem Ct.far{w:World}{b off g:Nat}{cs:List Value}(h:Ct w b off cs)(hb:b≠g)(t:TypeId)(V:Array Value):Ct (putB w g t V) b off cs:=by
 have hg:=putB_grown w g t V
 exact⟨Nat.lt_of_lt_of_le h.lt hg.size,fun j u hu=>by
  have h1:=h.c j u hu;have h2:=hg.block b h.lt (fun e=>hb (Option.some.inj e))
  unfold World.cell? at h1 ⊢
  rw[h2]
  exact h1⟩
def Lo(a w:World):Prop:=Below a.heap.size a w
theorem Lo.belowW{a w w':World}(h:Lo a w)(hb:Below w.heap.size w w'):Lo a w':=Below.trans h (hb.mono (Below.size h))
theorem Lo.b9{a w w':World}(h:Lo a w)(hb:Go.RowKit.Hid (Go.RowKit.Below w.heap.size w w')):Go.RowKit.Hid (Lo a w'):=hI (Lo.belowW h hb.o)
theorem Lo.size{a w:World}(h:Lo a w):a.heap.size≤w.heap.size:=Below.size h
theorem Lo.put{a w:World}(h:Lo a w){g:Nat}(hg:a.heap.size≤g)(t:TypeId)(cs:Array Value):Lo a (putB w g t cs):=Below.trans h (putB_below w g t cs hg)
theorem Blk.all4'{w:World}{g:Nat}{t:TypeId}{a0 a1 a2 a3:Value}(h:Blk w g t #[a0,a1,a2,a3]):w.cell? ⟨g,0,none⟩=some a0∧w.cell? ⟨g,1,none⟩=some a1∧w.cell? ⟨g,2,none⟩=some a2∧w.cell? ⟨g,3,none⟩=some a3:=
 ⟨h.cell 0,h.cell 1,h.cell 2,h.cell 3⟩
end Go.Fl
namespace Go.Proofs
open Go.Shelf
def Tryz.lays144_ren:Go.Shelf.Ren:=⟨fun | 144=>173 | 143=>218 | 219=>260 | 217=>122 | 225=>300 | 224=>301 | 267=>302 | 266=>170 | 314=>317 | n=>n,fun | 9=>9 | 4=>4 | 3=>3 | 5=>5 | 46=>182 | 146=>259 | 51=>157 | n=>n,fun | 1=>0 | n=>n⟩
theorem Tryz.lays144:Go.Proofs.Lays.n144 Tryz.prog Tryz.lays144_ren:={
 mixed:=by kernel_rfl
 f143:=Tryz.func218.trans (congrArg some (by kernel_rfl))
 f144:=Tryz.func173.trans (congrArg some (by kernel_rfl))
 f217:=Tryz.func122.trans (congrArg some (by kernel_rfl))
 f219:=Tryz.func260.trans (congrArg some (by kernel_rfl))
 f224:=Tryz.func301.trans (congrArg some (by kernel_rfl))
 f225:=Tryz.func300.trans (congrArg some (by kernel_rfl))
 f266:=Tryz.func170.trans (congrArg some (by kernel_rfl))
 f267:=Tryz.func302.trans (congrArg some (by kernel_rfl))
 f314:=Tryz.func317.trans (congrArg some (by kernel_rfl))
 t3:=Tryz.underlying3
 a3:=Tryz.isAgg3
 z3:=Tryz.sizeOf3
 v3:=Tryz.zeroValue3
 t4:=Tryz.underlying4
 a4:=Tryz.isAgg4
 z4:=Tryz.sizeOf4
 v4:=Tryz.zeroValue4
 t5:=Tryz.underlying5
 a5:=Tryz.isAgg5
 z5:=Tryz.sizeOf5
 v5:=Tryz.zeroValue5
 t9:=Tryz.underlying9
 a9:=Tryz.isAgg9
 z9:=Tryz.sizeOf9
 v9:=Tryz.zeroValue9
 t46:=Tryz.underlying182
 a46:=Tryz.isAgg182
 z46:=Tryz.sizeOf182
 v46:=Tryz.zeroValue182
 t51:=Tryz.underlying157
 a51:=Tryz.isAgg157
 z51:=Tryz.sizeOf157
 v51:=Tryz.zeroValue157
 t146:=Tryz.underlying259
 a146:=Tryz.isAgg259
 z146:=Tryz.sizeOf259
 v146:=Tryz.zeroValue259
 g1:=by kernel_rfl}
open Go.RowKit Go.Lib in
theorem Tryz.strings_Contains_one(s:ByteArray)(c:UInt8)(w:World):
 Calls Tryz.prog 173 #[.string s,.string ⟨#[c]⟩] w fun e w'=>e= .returned (.b (decide (0≤Lib.indexByte s.data.toList c)))∧w'=w:=Any.strings_Contains_one Tryz.lays144 s c w
