import Derived.Test.YtgcjmhjjpbcfmaaGreatDoorRg
set_option linter.unusedVariables false
namespace Go.Proofs.YtgcjmhjjpbcfmaaGreatDoor
open Go.RowKit Go.Fl Go.Fl.Lx Go.Fl.Nm Go.Fl.Fm Go.Fl.Rt Go.Fl.Pa
def Avd{Z:Type}(av:Nat→Prop)(Pz:(Nat→Prop)→World→Z→Prop)(P:Nat→Prop)(w:World)(z:Z):Prop:=Pz (fun b=>P b∧¬av b) w z
theorem avd_ok{Z:Type}{av:Nat→Prop}{Pz:(Nat→Prop)→World→Z→Prop}(hok:PzOk Pz):PzOk (Avd av Pz):=
 ⟨fun h hr hg=>hok.mv h (fun b hb=>hr b hb.1) hg,fun h hC=>hok.weaken h (fun b hb=>⟨hC b hb.1,hb.2⟩),fun h=>hok.weaken (hok.lt h) (fun b hb=>⟨⟨hb.1.1,hb.2⟩,hb.1.2⟩)⟩
def Own(v:Value)(b:Nat):Prop:=v.ownBlock=some b
theorem grown_none{w w':World}{B:Nat}(hB:w.heap.size≤B)(hb:Below B w w'):w.grownBy w' none:=⟨hb.os,hb.tape,hb.output,hb.size,fun k hk _=>hb.block k (Nat.lt_of_lt_of_le hk hB)⟩
structure Mk2 {Z Y:Type} (e:TypeId) (m:Nat) (cells:Z→List Value) (Pz:(Nat→Prop)→World→Z→Prop) (e':TypeId) (m':Nat) (cells':Y→List Value) (Py:(Nat→Prop)→World→Y→Prop) (base:Nat) (w:World) (v:Value) (zs:List Z) (u:Value) (ys:List Y):Prop where
  a:Mk e m cells (Avd (Own u) Pz) base w v zs
  b:Mk e' m' cells' (Avd (Own v) Py) base w u ys
  nd:∀k,v.ownBlock=some k→u.ownBlock≠some k
section
variable {Z Y:Type} {e:TypeId} {m:Nat} {cells:Z→List Value} {Pz:(Nat→Prop)→World→Z→Prop} {e':TypeId} {m':Nat} {cells':Y→List Value} {Py:(Nat→Prop)→World→Y→Prop} {base:Nat} {w w':World} {v u:Value} {zs:List Z} {ys:List Y}
theorem Mk2.nil(e:TypeId)(m:Nat)(cells:Z→List Value)(Pz:(Nat→Prop)→World→Z→Prop)(e':TypeId)(m':Nat)(cells':Y→List Value)(Py:(Nat→Prop)→World→Y→Prop)(base:Nat)(w:World):Mk2 e m cells Pz e' m' cells' Py base w (.sn) ([]:List Z) (.sn) ([]:List Y):=
 ⟨Mk.nil _ _ _ _ _ _,Mk.nil _ _ _ _ _ _,fun k h=>by cases h⟩
theorem Mk2.swap(h:Mk2 e m cells Pz e' m' cells' Py base w v zs u ys):Mk2 e' m' cells' Py e m cells Pz base w u ys v zs:=⟨h.b,h.a,fun k h1 h2=>h.nd k h2 h1⟩
theorem Mk2.moved(hz:PzOk Pz)(hy:PzOk Py)(h:Mk2 e m cells Pz e' m' cells' Py base w v zs u ys){r:Option Nat}(hr:r=none∨∃k,r=some k∧k<base)(hg:w.grownBy w' r):Mk2 e m cells Pz e' m' cells' Py base w' v zs u ys:=
 ⟨h.a.moved (avd_ok hz) hr hg,h.b.moved (avd_ok hy) hr hg,h.nd⟩
theorem Mk2.belowW(hz:PzOk Pz)(hy:PzOk Py)(h:Mk2 e m cells Pz e' m' cells' Py base w v zs u ys)(hb:Below w.heap.size w w'):Mk2 e m cells Pz e' m' cells' Py base w' v zs u ys:=h.moved hz hy (.inl rfl) (grown_none (Nat.le_refl _) hb)
theorem Mk2.pushed(hy:PzOk Py)(h:Mk2 e m cells Pz e' m' cells' Py base w v zs u ys){v2:Value}{z:Z}(hmk:Mk e m cells (Avd (Own u) Pz) base w' v2 (zs++[z]))(hg:w.grownBy w' v.ownBlock)(ho:v2.ownBlock=v.ownBlock∨v2.ownBlock=some w.heap.size):
 Mk2 e m cells Pz e' m' cells' Py base w' v2 (zs++[z]) u ys:=by
 refine⟨hmk,⟨h.b.own.kept hg ?_,fun y hy'=>?_⟩,fun k hk hu=>?_⟩
 ·
  cases hu:u.ownBlock with
  | none=>exact .inl rfl
  | some k=>exact .inr (fun e=>h.nd k e.symm hu)
 ·
  have h1:Py (fun b=>(base≤b∧b<w.heap.size∧some b≠u.ownBlock)∧¬Own v b) w y:=h.b.el y hy';refine hy.weaken (hy.mv h1 (fun b hb e=>hb.2 e.symm) hg) (fun b hb=>⟨⟨hb.1.1,Nat.lt_of_lt_of_le hb.1.2.1 hg.size,hb.1.2.2⟩,fun hb2=>?_⟩);unfold Own at hb2
  rcases ho with e | e
  ·
   rw[e]at hb2;exact hb.2 hb2
  rw[e]at hb2;injection hb2 with hb2;have:=hb.1.2.1
  omega
 rcases ho with e | e
 ·
  rw[e]at hk;exact h.nd k hk hu
 rw[e]at hk;injection hk with hk;have:=(h.b.own.lt k hu).2
 omega
theorem Mk2.fresh(hz:PzOk Pz)(h:Mk2 e m cells Pz e' m' cells' Py base w v zs u ys)(w2:World){lo:Nat}(hlo:w.heap.size≤lo)(hb:base≤lo){z:Z}(hzz:Pz (fun b=>lo≤b∧b<w2.heap.size) w2 z):
 Avd (Own u) Pz (fun b=>base≤b∧b<w2.heap.size∧some b≠v.ownBlock) w2 z:=by
 refine hz.weaken hzz (fun b hb2=>⟨⟨by omega,hb2.2,fun e=>?_⟩,fun e=>?_⟩)
 ·
  have:=(h.a.own.lt b e.symm).2;omega
 have:=(h.b.own.lt b e).2;omega
theorem LiL.unavd(hz:PzOk Pz){av P:Nat→Prop}{A:Option Addr}{len cap:Nat}(h:LiL m cells (Avd av Pz) P w A len cap zs):LiL m cells Pz P w A len cap zs:=
 ⟨⟨h.il.hl,h.il.hc,h.il.hm,h.il.hr,fun z hzz=>hz.weaken (h.il.hi z hzz) (fun b hb=>hb.1)⟩,h.hg,h.fz⟩
theorem Mk2.lies(hz:PzOk Pz)(hy:PzOk Py)(h:Mk2 e m cells Pz e' m' cells' Py base w v zs u ys):∃A c B d,v= .l A zs.length c∧u= .l B ys.length d∧LiL m cells Pz (fun b=>base≤b) w A zs.length c zs∧LiL m' cells' Py (fun b=>base≤b) w B ys.length d ys:=by
 obtain⟨A,c,h1,h2⟩:=h.a.lies (avd_ok hz);obtain⟨B,d,h3,h4⟩:=h.b.lies (avd_ok hy);exact⟨A,c,B,d,h1,h3,h2.unavd hz,h4.unavd hy⟩
theorem oper_append_mk{o:Oper}{a:Act}{K:Act→World→Prop}{Q:Exit→Act→World→Prop}(s x:Operand)(t:TypeId)
 (ho:o.op= .call {callee:= .builtin .append,args:=#[s,x],argTypes:=#[t,t]})
 (hok:PzOk Pz) (hlen:∀z,(cells z).length=m) (hs:a.eval s=v) (h:Mk e m cells Pz base w v zs) {z:Z} (hz:Pz (fun b=>base≤b∧b<w.heap.size∧some b≠v.ownBlock) w z)
 (i:TypeInfo) (zv:Value) (bytes:Nat) (ht:Tryz.prog.underlying t=some (.slice e)) (hi:Tryz.prog.info? e=some i) (hzv:i.zero=some zv)
 (hsize:i.size=m) (hby:i.bytes=bytes) (hzs:zv.cells.size=m) (hsz:0<m) (hb60:bytes≤1000) (hsm:zs.length≤200000)
 (gs c:Nat) (hx:a.eval x= .l (some ⟨gs,0,none⟩) 1 c) (hblk:Blk w gs e (cells z).toArray) (hone:∀u∈cells z,u.oneCell'=true) (hbase:base≤w.heap.size)
 (k:∀v' w',Mk e m cells Pz base w' v' (zs++[z])→w.grownBy w' v.ownBlock→(v'.ownBlock=v.ownBlock∨v'.ownBlock=some w.heap.size)→K (a.put o.dst v') w'):Oper.wp Tryz.prog o a w K Q:=by
 obtain⟨v',w',hrun,h2,h3,h4⟩:=h.push hok hlen hz t o.type i zv bytes ht hi hzv hsize hby hzs hsz hb60 hsm gs hblk hone hbase c;unfold Oper.wp execOp;simp only[ho,resolve,invoke,builtin,Sem.run_bind,Sem.run_pure,Result.andThen_ok,List.map_toArray,List.map_cons,List.map_nil,hs,hx,hrun];exact k v' w' h2 h3 h4
theorem if_wanted{p:Bool}{A B:Prop}(hp:p=true)(h:A):if p=true then A else B:=by rw[if_pos hp];exact h
end
theorem EdN.len9(z:EdN):(EdN.cells z).length=9:=rfl
theorem MdN.len3(z:MdN):(MdN.cells z).length=3:=rfl
theorem DcN.len5(z:DcN):(DcN.cells z).length=5:=rfl
