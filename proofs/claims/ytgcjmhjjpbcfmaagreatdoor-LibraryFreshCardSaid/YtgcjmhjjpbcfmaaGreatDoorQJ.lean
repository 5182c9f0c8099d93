import Derived.Test.YtgcjmhjjpbcfmaaGreatDoorQI
set_option linter.unusedVariables false
set_option maxHeartbeats 4000000
set_option maxRecDepth 100000
namespace Go.Proofs.YtgcjmhjjpbcfmaaGreatDoor
open Go.RowKit Go.Fl Go.Fl.Lx Go.Fl.Nm Go.Fl.Fm Go.Fl.Rt Go.Fl.Pa
inductive InA (P:Nat→Prop) (w:World):TE→Nd→Prop where
  | mk (h:Hd) (l:List TE) (A:Option Addr) (len cap:Nat) (vs:List Nd) (ok:HdOk h) (hl:l.length=len) (hc:len≤cap) (hm:cap≤maxLen) (hv:vs.length=len) (hr:Rd w 6 A len (ndsCells vs)) (hg:0<len→∀b o,A=some ⟨b,o,none⟩→P b)
      (hi:∀(i:Nat) T v,l[i]? =some T→vs[i]? =some v→InA P w T v):InA P w (.mk h l) ⟨h,A,len,cap⟩
theorem InA.toE{P:Nat→Prop}{w:World}{T:TE}{v:Nd}(h:InA P w T v):InE w T v:=by
 induction h with
 | mk h l A len cap vs ok hl hc hm hv hr hg hi ih=>exact .mk h l A len cap vs ok hl hc hm hv hr ih
theorem InA.mv{P:Nat→Prop}{g:Nat}{w w':World}{T:TE}{v:Nd}(h:InA P w T v)(hgP:¬P g)(hb:w.grownBy w' (some g)):InA P w' T v:=by
 induction h with
 | mk h l A len cap vs ok hl hc hm hv hr hg hi ih=>
  refine .mk h l A len cap vs ok hl hc hm hv ⟨hr.1,fun hn=>?_⟩ hg ih;obtain⟨b,off,hA,hlt,hcell⟩:=hr.2 hn;refine⟨b,off,hA,Nat.lt_of_lt_of_le hlt hb.size,fun j u hu=>?_⟩;have h1:=hcell j u hu;have h2:=hb.block b hlt (fun e=>by have:=hg hn b off hA;injection e with e;rw[e]at this;exact hgP this)
  unfold World.cell? at h1 ⊢
  rw[h2];exact h1
theorem InA.belowW{P:Nat→Prop}{w w':World}{T:TE}{v:Nd}(h:InA P w T v)(hb:Below w.heap.size w w'):InA P w' T v:=by
 induction h with
 | mk h l A len cap vs ok hl hc hm hv hr hg hi ih=>exact .mk h l A len cap vs ok hl hc hm hv (hr.below hb) hg ih
theorem InA.b9{P:Nat→Prop}{w w':World}{T:TE}{v:Nd}(h:InA P w T v)(hb:Go.RowKit.Hid (Go.RowKit.Below w.heap.size w w')):Go.RowKit.Hid (InA P w' T v):=hI (InA.belowW h hb.o)
theorem InA.far{P:Nat→Prop}{r:Nat}{w:World}{T:TE}{v:Nd}(h:InA P w T v)(hr:¬P r)(t:TypeId)(V:Array Value):InA P (putB w r t V) T v:=h.mv hr (putB_grown w r t V)
theorem InA.weaken{P Q:Nat→Prop}{w:World}{T:TE}{v:Nd}(h:InA P w T v)(hC:∀b,P b→Q b):InA Q w T v:=by
 induction h with
 | mk h l A len cap vs ok hl hc hm hv hr hg hi ih=>exact .mk h l A len cap vs ok hl hc hm hv hr (fun hn b o e=>hC b (hg hn b o e)) ih
theorem InA.lt{P:Nat→Prop}{w:World}{T:TE}{v:Nd}(h:InA P w T v):InA (fun b=>P b∧b<w.heap.size) w T v:=by
 induction h with
 | mk h l A len cap vs ok hl hc hm hv hr hg hi ih=>
  refine .mk h l A len cap vs ok hl hc hm hv hr (fun hn b o e=>⟨hg hn b o e,?_⟩) ih;obtain⟨b',off,hA,hlt,_⟩:=hr.2 hn;rw[e]at hA;injection hA with hA;injection hA with hA;rw[hA];exact hlt
theorem InA.ok{P:Nat→Prop}{w:World}{T:TE}{v:Nd}(h:InA P w T v):HdOk v.h:=h.toE.ok
theorem ina_leaf(P:Nat→Prop)(w:World)(h:Hd)(ok:HdOk h):InA P w (.mk h []) ⟨h,none,0,0⟩:=
 .mk h [] none 0 0 [] ok rfl (Nat.le_refl _) (Nat.zero_le _) rfl (Rd.none_ _ _) (fun hn=>absurd hn (Nat.lt_irrefl 0)) (fun i T v h=>by cases h)
theorem ina_new1{P:Nat→Prop}(w:World)(hd:Hd)(ok:HdOk hd)(a:TE)(x:Nd)(t:TypeId)(hB:P w.heap.size)(ha:InA P w a x):
    InA P (w.alloc (.cells x.cells.toArray t)) (.mk hd [a]) ⟨hd,some ⟨w.heap.size,0,none⟩,1,1⟩:=
  .mk _ [a] _ 1 1 [x] ok rfl (Nat.le_refl _) (by decide) rfl
    (by
      refine⟨rfl,fun _=>⟨w.heap.size,0,rfl,by simp,fun j u hu=>?_⟩⟩
      have h:=(Blk.new w t x.cells.toArray).cell j
      rw[Nat.zero_add,h,List.getElem?_toArray]
      have e:ndsCells [x]=x.cells:=by show x.cells++[]=_;rw[List.append_nil]
      rw[e]at hu
      exact hu)
    (fun _ b o e=>by injection e with e;injection e with e;rw[←e];exact hB)
    (fun i T v h1 h2=>by
      match i with
      | 0=>injection h1 with h1;injection h2 with h2;subst h1 h2;exact ha.belowW (below_box w _)
      | i+1=>cases h1)
theorem ina_new2{P:Nat→Prop}(w:World)(hd:Hd)(ok:HdOk hd)(a b:TE)(x y:Nd)(t:TypeId)(hB:P w.heap.size)(ha:InA P w a x)(hb:InA P w b y):
    InA P (w.alloc (.cells (x.cells++y.cells).toArray t)) (.mk hd [a,b]) ⟨hd,some ⟨w.heap.size,0,none⟩,2,2⟩:=
  .mk _ [a,b] _ 2 2 [x,y] ok rfl (Nat.le_refl _) (by decide) rfl
    (by
      refine⟨rfl,fun _=>⟨w.heap.size,0,rfl,by simp,fun j u hu=>?_⟩⟩
      have h:=(Blk.new w t (x.cells++y.cells).toArray).cell j
      rw[Nat.zero_add,h,List.getElem?_toArray]
      exact hu)
    (fun _ b o e=>by injection e with e;injection e with e;rw[←e];exact hB)
    (fun i T v h1 h2=>by
      match i with
      | 0=>injection h1 with h1;injection h2 with h2;subst h1 h2;exact ha.belowW (below_box w _)
      | 1=>injection h1 with h1;injection h2 with h2;subst h1 h2;exact hb.belowW (below_box w _)
      | i+2=>cases h1)
def InX(B:Nat)(w:World)(T:TE)(v:Nd):Prop:=InA (fun b=>B≤b) w T v
theorem InX.toE{B:Nat}{w:World}{T:TE}{v:Nd}(h:InX B w T v):InE w T v:=InA.toE h
theorem InX.mv{B g:Nat}{w w':World}{T:TE}{v:Nd}(h:InX B w T v)(hgB:g<B)(hb:w.grownBy w' (some g)):InX B w' T v:=InA.mv h (fun e=>absurd hgB (Nat.not_lt_of_le e)) hb
theorem InX.belowW{B:Nat}{w w':World}{T:TE}{v:Nd}(h:InX B w T v)(hb:Below w.heap.size w w'):InX B w' T v:=InA.belowW h hb
theorem InX.b9{B:Nat}{w w':World}{T:TE}{v:Nd}(h:InX B w T v)(hb:Go.RowKit.Hid (Go.RowKit.Below w.heap.size w w')):Go.RowKit.Hid (InX B w' T v):=hI (InX.belowW h hb.o)
theorem InX.far{B r:Nat}{w:World}{T:TE}{v:Nd}(h:InX B w T v)(hr:r<B)(t:TypeId)(V:Array Value):InX B (putB w r t V) T v:=h.mv hr (putB_grown w r t V)
theorem InX.weaken{B C:Nat}{w:World}{T:TE}{v:Nd}(h:InX B w T v)(hC:C≤B):InX C w T v:=InA.weaken h (fun b hb=>Nat.le_trans hC hb)
theorem InX.ok{B:Nat}{w:World}{T:TE}{v:Nd}(h:InX B w T v):HdOk v.h:=h.toE.ok
theorem inx_leaf(B:Nat)(w:World)(h:Hd)(ok:HdOk h):InX B w (.mk h []) ⟨h,none,0,0⟩:=ina_leaf _ w h ok
theorem inx_new1{B:Nat}(w:World)(hd:Hd)(ok:HdOk hd)(a:TE)(x:Nd)(t:TypeId)(hB:B≤w.heap.size)(ha:InX B w a x):
 InX B (w.alloc (.cells x.cells.toArray t)) (.mk hd [a]) ⟨hd,some ⟨w.heap.size,0,none⟩,1,1⟩:=ina_new1 w hd ok a x t hB ha
def ExR(w0:World)(g:Nat)(A:Option Addr)(len cap:Nat)(ts:List Tok)(m:Nat)(r:PR TE)(w:World)(e:Ending)(w':World):Prop:=
  match r with
  | .ok T k1=>∃v:Nd,e= .returned v.val∧Hid (InX w.heap.size w' T v)∧Hid (w.grownBy w' (some g))∧Hid (Env w0 g A len cap ts k1 m w')
  | .bad ln co er=>e=pan ln co er∧Hid (w.grownBy w' (some g))
  | .out=>True
section
variable {w0:World} {g:Nat} {A:Option Addr} {len cap:Nat} {ts:List Tok} {m:Nat}
theorem exr_bad{ln co er:Nat}{w w':World}(hg:Hid (w.grownBy w' (some g))):ExR w0 g A len cap ts m (.bad ln co er) w (pan ln co er) w':=⟨rfl,hg⟩
theorem exr_unex{k:Nat}{w w':World}{e:Ending}(he:e=panU ts k)(hg:Hid (w.grownBy w' (some g))):ExR w0 g A len cap ts m (unex ts k) w e w':=by
 unfold unex failP;unfold panU at he
 split
 ·
  rename_i h
  rw[if_pos h]at he;exact⟨he,hg⟩
 rename_i h
 rw[if_neg h]at he;exact⟨he,hg⟩
theorem exr_fail{k er:Nat}{w w':World}(hg:Hid (w.grownBy w' (some g))):ExR w0 g A len cap ts m (failP ts k er) w (pan (tk ts k).line (tk ts k).col er) w':=⟨rfl,hg⟩
end
theorem deeper_factor{w0 w:World}{g:Nat}{A:Option Addr}{len cap:Nat}{ts:List Tok}{k m:Nat}(h:Env w0 g A len cap ts k m w)(hk:k≤120000)(hm:m≤100)(r:PR TE)(hr:r≠ .out)
 (KF:m≠100→∀w',Env w0 g A len cap ts (k+1) (m+1) w'→Calls Tryz.prog 151 #[.p g] w' (ExR w0 g A len cap ts (m+1) r w')):
 Calls Tryz.prog 193 #[.p g,.func (.func 151) #[.p g] #[]] w (ExR w0 g A len cap ts m (if m=100 then failP ts k 5 else r) w):=by
 have H:=hI KF;have ai:=hI h;obtain⟨Q,I⟩:=eX ((if m=100 then failP ts k 5 else r));have J:=hI I;rw[←I];clear KF I
 go_in
 go_upto_region 1 with(fail);generalize hw1:World.alloc _ _=w1;obtain⟨R,F1⟩:=gn1 hw1;clear hw1;have S:=hI (show some w.heap.size≠some g from fun e=>by have:=h.gl;injection e with e;omega)
 have s:w.heap.size≠g:=fun e=>S.o (by rw[e])
 have ak:w0.heap.size≤w.heap.size:=h.b.size;have U:=hI (h.belowW R.o);have V:=hI (grown_of (some g) R.o);clear h;have u:=hI (show Blk w1 g 124 #[.l A len cap,.i (k:Nat),.i (m:Nat)]from U.o.p)
 by_cases hmm:m=100
 ·
  have x:=hI (show Q=failP ts k 5 from J.o.trans (if_pos hmm));have d1:((m:Int)==100)=true:=(by rw[hmm];rfl);have c:w1.cell? ⟨g,2,none⟩=some (.i (m:Nat)):=u.o.cell 2;clear hmm;go_wp2_with fail;refine(U.o.fail 5).mono ?_;rintro e y ⟨rfl,HB⟩;go_wp2_with fail;rw[x.o];exact⟨rfl,exr_fail (hI (grown_tr V.o (grown_of _ HB.o)))⟩
 have x:=hI (show Q=r from J.o.trans (if_neg hmm));have d1:((m:Int)==100)=false:=(by rw[beq_eq_false_iff_ne];omega);have H:=hI (H.o hmm);clear hmm J;have e1:IntKind.i64.wrap ((k:Int)+1)=(k:Int)+1:=(by rw[IntKind.wrap_i64];omega);have e2:IntKind.i64.wrap ((m:Int)+1)=(m:Int)+1:=(by rw[IntKind.wrap_i64];omega);have e3:IntKind.i64.wrap ((m:Int)+1-1)=(m:Int):=(by rw[IntKind.wrap_i64];omega);obtain⟨i,j,l,o,c,q⟩:=u.o.all3;go_upto_region 4 with(fail);rw[u.o.setCell_eq];have B:=hI (show Blk (putB w1 g 124 ((#[.l A len cap,.i (k:Nat),.i (m:Nat)]:Array Value).setIfInBounds 1 (.i ((k:Int)+1)))) g 124 #[.l A len cap,.i ((k:Int)+1),.i (m:Nat)]from u.o.put _);have W:=hI (grown_tr V.o (putB_grown w1 g 124 ((#[.l A len cap,.i (k:Nat),.i (m:Nat)]:Array Value).setIfInBounds 1 (.i ((k:Int)+1)))));have X:=hI (F1.o.far (t':=124) s ((#[.l A len cap,.i (k:Nat),.i (m:Nat)]:Array Value).setIfInBounds 1 (.i ((k:Int)+1))));clear i j l o c q;obtain⟨y,Y⟩:=eX (putB w1 g 124 ((#[.l A len cap,.i (k:Nat),.i (m:Nat)]:Array Value).setIfInBounds 1 (.i ((k:Int)+1))));rw[←Y]at B W X ⊢;clear Y;obtain⟨i,j,l,o,c,q⟩:=B.o.all3;go_upto_region 5 with(fail);rw[B.o.setCell_eq];have Z:=hI (show Blk (putB y g 124 ((#[.l A len cap,.i ((k:Int)+1),.i (m:Nat)]:Array Value).setIfInBounds 2 (.i ((m:Int)+1)))) g 124 #[.l A len cap,.i ((k:Int)+1),.i ((m:Int)+1)]from B.o.put _);have C:=hI (grown_tr W.o (putB_grown y g 124 ((#[.l A len cap,.i ((k:Int)+1),.i (m:Nat)]:Array Value).setIfInBounds 2 (.i ((m:Int)+1)))));have D:=hI (X.o.far (t':=124) s ((#[.l A len cap,.i ((k:Int)+1),.i (m:Nat)]:Array Value).setIfInBounds 2 (.i ((m:Int)+1))));clear i j l o c q;obtain⟨w3,ab⟩:=eX (putB y g 124 ((#[.l A len cap,.i ((k:Int)+1),.i (m:Nat)]:Array Value).setIfInBounds 2 (.i ((m:Int)+1))));rw[←ab]at Z C D ⊢;clear ab;have ac:=hI (show Env w0 g A len cap ts (k+1) (m+1) w3 from ai.o.moved C.o Z.o (by omega));have KC:=hI (H.o w3 ac.o)
 cases r with
 | out=>exact(hr rfl).elim
 | bad ln co er=>
  go_wp2_with fail;refine KC.o.mono ?_;rintro e w4 ⟨rfl,E⟩;go_wp2_with fail;rw[x.o]
  exact⟨rfl,exr_bad (hI (grown_tr C.o E.o))⟩
 | ok T k1=>
  go_wp2_with fail;refine KC.o.mono ?_;rintro e w4 ⟨v,rfl,an,E,ae⟩;have L:=hI (D.o.grown E.o S.o);have aw:w.heap.size≤w4.heap.size:=Nat.le_of_lt L.o.lt;go_upto_region 6 with(fail);generalize hw5:World.alloc _ _=w5;obtain⟨F,E5⟩:=gn1 hw5;clear hw5;have M:=ae.o.b9 F;have ap:w4.heap.size≠g:=Nat.ne_of_gt ae.o.gl;have ax:w.heap.size≠w4.heap.size:=Nat.ne_of_lt L.o.lt;have P5:=hI (show Blk w5 g 124 #[.l A len cap,.i (k1:Nat),.i ((m:Int)+1)]from M.o.p);obtain⟨i,j,l,o,c,q⟩:=P5.o.all3;go_upto_region 7 with(fail);rw[P5.o.setCell_eq];have ag:=hI (M.o.put k1 m M.o.kk);have N:=hI (E5.o.far (t':=124) ap #[.l A len cap,.i (k1:Nat),.i (m:Nat)]);have G:=hI ((L.o.belowW F.o).far (t':=124) s #[.l A len cap,.i (k1:Nat),.i (m:Nat)]);have O:=hI (putB_grown w5 g 124 #[.l A len cap,.i (k1:Nat),.i (m:Nat)]);clear i j l o c q;obtain⟨w6,P⟩:=eX (putB w5 g 124 #[.l A len cap,.i (k1:Nat),.i (m:Nat)]);have ah:putB w5 g 124 ((#[.l A len cap,.i (k1:Nat),.i ((m:Int)+1)]:Array Value).setIfInBounds 2 (.i (m:Nat)))=w6:=(by rw[P];rfl);rw[←P]at ag N G O;rw[ah];clear P ah;have a:=N.o.cell;have b:=N.o.frozen;obtain⟨r0,h0,r1,h1,r2,h2,r3,h3,r4,h4,r5,h5⟩:=G.o.all6;go_wp2;rw[pst6 G.o];have z:=(G.o.put #[.i v.h.kind,.i v.h.n,.i v.h.d,.string v.h.name,.i v.h.k,.l v.A v.len v.cap]).cell;refine bodyPost_ret (v:= .agg #[.i v.h.kind,.i v.h.n,.i v.h.d,.string v.h.name,.i v.h.k,.l v.A v.len v.cap]) (by simp[results,Tryz.results193,go_sem,z]) rfl ?_;rw[x.o];exact⟨v,rfl,hI ((((an.o.belowW F.o).mv ac.o.gl O.o).far D.o.lt _ _).weaken (Nat.le_of_lt D.o.lt)),hI (grown_new (grown_tr (grown_tr C.o (grown_tr E.o (grown_of (some g) F.o))) O.o) (Nat.le_refl _) _ _),hI (ag.o.far s ak _ _)⟩
theorem deeper_sum{w0 w:World}{g:Nat}{A:Option Addr}{len cap:Nat}{ts:List Tok}{k m:Nat}(h:Env w0 g A len cap ts k m w)(hk:k≤120000)(hm:m≤100)(r:PR TE)(hr:r≠ .out)
 (KF:m≠100→∀w',Env w0 g A len cap ts (k+1) (m+1) w'→Calls Tryz.prog 72 #[.p g] w' (ExR w0 g A len cap ts (m+1) r w')):
 Calls Tryz.prog 193 #[.p g,.func (.func 72) #[.p g] #[]] w (ExR w0 g A len cap ts m (if m=100 then failP ts k 5 else r) w):=by
 have H:=hI KF;have ai:=hI h;obtain⟨Q,I⟩:=eX ((if m=100 then failP ts k 5 else r));have J:=hI I;rw[←I];clear KF I
 go_in
 go_upto_region 1 with(fail);generalize hw1:World.alloc _ _=w1;obtain⟨R,F1⟩:=gn1 hw1;clear hw1;have S:=hI (show some w.heap.size≠some g from fun e=>by have:=h.gl;injection e with e;omega)
 have s:w.heap.size≠g:=fun e=>S.o (by rw[e])
 have ak:w0.heap.size≤w.heap.size:=h.b.size;have U:=hI (h.belowW R.o);have V:=hI (grown_of (some g) R.o);clear h;have u:=hI (show Blk w1 g 124 #[.l A len cap,.i (k:Nat),.i (m:Nat)]from U.o.p)
 by_cases hmm:m=100
 ·
  have x:=hI (show Q=failP ts k 5 from J.o.trans (if_pos hmm));have d1:((m:Int)==100)=true:=(by rw[hmm];rfl);have c:w1.cell? ⟨g,2,none⟩=some (.i (m:Nat)):=u.o.cell 2;clear hmm;go_wp2_with fail;refine(U.o.fail 5).mono ?_;rintro e y ⟨rfl,HB⟩;go_wp2_with fail;rw[x.o];exact⟨rfl,exr_fail (hI (grown_tr V.o (grown_of _ HB.o)))⟩
 have x:=hI (show Q=r from J.o.trans (if_neg hmm));have d1:((m:Int)==100)=false:=(by rw[beq_eq_false_iff_ne];omega);have H:=hI (H.o hmm);clear hmm J;have e1:IntKind.i64.wrap ((k:Int)+1)=(k:Int)+1:=(by rw[IntKind.wrap_i64];omega);have e2:IntKind.i64.wrap ((m:Int)+1)=(m:Int)+1:=(by rw[IntKind.wrap_i64];omega);have e3:IntKind.i64.wrap ((m:Int)+1-1)=(m:Int):=(by rw[IntKind.wrap_i64];omega);obtain⟨i,j,l,o,c,q⟩:=u.o.all3;go_upto_region 4 with(fail);rw[u.o.setCell_eq];have B:=hI (show Blk (putB w1 g 124 ((#[.l A len cap,.i (k:Nat),.i (m:Nat)]:Array Value).setIfInBounds 1 (.i ((k:Int)+1)))) g 124 #[.l A len cap,.i ((k:Int)+1),.i (m:Nat)]from u.o.put _);have W:=hI (grown_tr V.o (putB_grown w1 g 124 ((#[.l A len cap,.i (k:Nat),.i (m:Nat)]:Array Value).setIfInBounds 1 (.i ((k:Int)+1)))));have X:=hI (F1.o.far (t':=124) s ((#[.l A len cap,.i (k:Nat),.i (m:Nat)]:Array Value).setIfInBounds 1 (.i ((k:Int)+1))));clear i j l o c q;obtain⟨y,Y⟩:=eX (putB w1 g 124 ((#[.l A len cap,.i (k:Nat),.i (m:Nat)]:Array Value).setIfInBounds 1 (.i ((k:Int)+1))));rw[←Y]at B W X ⊢;clear Y;obtain⟨i,j,l,o,c,q⟩:=B.o.all3;go_upto_region 5 with(fail);rw[B.o.setCell_eq];have Z:=hI (show Blk (putB y g 124 ((#[.l A len cap,.i ((k:Int)+1),.i (m:Nat)]:Array Value).setIfInBounds 2 (.i ((m:Int)+1)))) g 124 #[.l A len cap,.i ((k:Int)+1),.i ((m:Int)+1)]from B.o.put _);have C:=hI (grown_tr W.o (putB_grown y g 124 ((#[.l A len cap,.i ((k:Int)+1),.i (m:Nat)]:Array Value).setIfInBounds 2 (.i ((m:Int)+1)))));have D:=hI (X.o.far (t':=124) s ((#[.l A len cap,.i ((k:Int)+1),.i (m:Nat)]:Array Value).setIfInBounds 2 (.i ((m:Int)+1))));clear i j l o c q;obtain⟨w3,ab⟩:=eX (putB y g 124 ((#[.l A len cap,.i ((k:Int)+1),.i (m:Nat)]:Array Value).setIfInBounds 2 (.i ((m:Int)+1))));rw[←ab]at Z C D ⊢;clear ab;have ac:=hI (show Env w0 g A len cap ts (k+1) (m+1) w3 from ai.o.moved C.o Z.o (by omega));have KC:=hI (H.o w3 ac.o)
 cases r with
 | out=>exact(hr rfl).elim
 | bad ln co er=>
  go_wp2_with fail;refine KC.o.mono ?_;rintro e w4 ⟨rfl,E⟩;go_wp2_with fail;rw[x.o]
  exact⟨rfl,exr_bad (hI (grown_tr C.o E.o))⟩
 | ok T k1=>
  go_wp2_with fail;refine KC.o.mono ?_;rintro e w4 ⟨v,rfl,an,E,ae⟩;have L:=hI (D.o.grown E.o S.o);have aw:w.heap.size≤w4.heap.size:=Nat.le_of_lt L.o.lt;go_upto_region 6 with(fail);generalize hw5:World.alloc _ _=w5;obtain⟨F,E5⟩:=gn1 hw5;clear hw5;have M:=ae.o.b9 F;have ap:w4.heap.size≠g:=Nat.ne_of_gt ae.o.gl;have ax:w.heap.size≠w4.heap.size:=Nat.ne_of_lt L.o.lt;have P5:=hI (show Blk w5 g 124 #[.l A len cap,.i (k1:Nat),.i ((m:Int)+1)]from M.o.p);obtain⟨i,j,l,o,c,q⟩:=P5.o.all3;go_upto_region 7 with(fail);rw[P5.o.setCell_eq];have ag:=hI (M.o.put k1 m M.o.kk);have N:=hI (E5.o.far (t':=124) ap #[.l A len cap,.i (k1:Nat),.i (m:Nat)]);have G:=hI ((L.o.belowW F.o).far (t':=124) s #[.l A len cap,.i (k1:Nat),.i (m:Nat)]);have O:=hI (putB_grown w5 g 124 #[.l A len cap,.i (k1:Nat),.i (m:Nat)]);clear i j l o c q;obtain⟨w6,P⟩:=eX (putB w5 g 124 #[.l A len cap,.i (k1:Nat),.i (m:Nat)]);have ah:putB w5 g 124 ((#[.l A len cap,.i (k1:Nat),.i ((m:Int)+1)]:Array Value).setIfInBounds 2 (.i (m:Nat)))=w6:=(by rw[P];rfl);rw[←P]at ag N G O;rw[ah];clear P ah;have a:=N.o.cell;have b:=N.o.frozen;obtain⟨r0,h0,r1,h1,r2,h2,r3,h3,r4,h4,r5,h5⟩:=G.o.all6;go_wp2;rw[pst6 G.o];have z:=(G.o.put #[.i v.h.kind,.i v.h.n,.i v.h.d,.string v.h.name,.i v.h.k,.l v.A v.len v.cap]).cell;refine bodyPost_ret (v:= .agg #[.i v.h.kind,.i v.h.n,.i v.h.d,.string v.h.name,.i v.h.k,.l v.A v.len v.cap]) (by simp[results,Tryz.results193,go_sem,z]) rfl ?_;rw[x.o];exact⟨v,rfl,hI ((((an.o.belowW F.o).mv ac.o.gl O.o).far D.o.lt _ _).weaken (Nat.le_of_lt D.o.lt)),hI (grown_new (grown_tr (grown_tr C.o (grown_tr E.o (grown_of (some g) F.o))) O.o) (Nat.le_refl _) _ _),hI (ag.o.far s ak _ _)⟩
def encR(ts:List Tok)(k m:Nat)(r:PR TE):PR TE:=
  if isS false ts k [40]then
    if m=100 then failP ts k 5
    else
      match r with
      | .ok e k1=>if isS false ts k1 [41]then .ok e (k1+1)else unex ts k1
      | r=>r
  else unex ts k
theorem encP_eq(nm:List UInt8→Bool)(ts:List Tok)(f k m:Nat):encP nm ts (f+1) k m=encR ts k m (sumP nm ts f (k+1) (m+1)):=by
 rw[encP.eq_def]
 rfl
theorem pEnclosed{w0 w:World}{g:Nat}{A:Option Addr}{len cap:Nat}{ts:List Tok}{k m:Nat}(h:Env w0 g A len cap ts k m w)(hk:k≤110000)(hm:m≤100)(r:PR TE)(hr:isS false ts k [40]=true→r≠ .out)(hrk:∀T k1,r= .ok T k1→k1≤110000)
 (KF:isS false ts k [40]=true→m≠100→∀w',Env w0 g A len cap ts (k+1) (m+1) w'→Calls Tryz.prog 72 #[.p g] w' (ExR w0 g A len cap ts (m+1) r w')):
 Calls Tryz.prog 234 #[.p g] w (ExR w0 g A len cap ts m (encR ts k m r) w):=by
 obtain⟨o,C⟩:=eX (encR ts k m r);have x:=hI C;have D:=hI KF;have Y:=hI hrk;rw[←C];clear KF C hrk
 go_in
 go_upto_region 1 with(fail);generalize hw1:World.alloc _ _=w1;obtain⟨P,Q⟩:=gn1 hw1;clear hw1;have E:=hI (show some w.heap.size≠some g from fun e=>by have:=h.gl;injection e with e;omega)
 have Z:w.heap.size≠g:=fun e=>E.o (by rw[e])
 have aa:w0.heap.size≤w.heap.size:=h.b.size;have ab:g<w.heap.size:=h.gl;have F:=hI (h.belowW P.o);have G:=hI (grown_of (some g) P.o);have ac:w.heap.size<w1.heap.size:=Q.o.lt;clear h;have p:=hI (pIs F.o 0 (by omega) ⟨#[40]⟩);rw[Nat.add_zero,show kwP (⟨#[40]⟩:ByteArray).data.toList=false by decide,show(⟨#[40]⟩:ByteArray).data.toList=[40]from rfl]at p
 cases hb:isS false ts k [40]with
 | false=>
  have q:=hI (show o=unex ts k by rw[x.o];unfold encR;rw[hb];rfl);rw[hb]at p;clear hb x;go_wp2_with fail;refine p.o.mono ?_;rintro e w2 ⟨rfl,j⟩;go_wp2_with fail;refine((F.o.belowW j.o).unx).mono ?_;rintro e w3 ⟨u,ad⟩;obtain⟨c,hc⟩:=panU_pan ts k;have H:=hI hc;rw[hc]at u;subst u;clear hc;go_wp2_with fail;rw[q.o]
  exact⟨rfl,exr_unex H.o.symm (hI (grown_tr G.o (grown_tr (grown_of _ j.o) (grown_of _ ad.o))))⟩
 | true=>
  have hr:=hr hb;have D:=hI (D.o hb);rw[hb]at p
  have q:=hI (show o=(if m=100 then failP ts k 5 else match r with
   | .ok e k1=>if isS false ts k1 [41]then .ok e (k1+1)else unex ts k1
   | r=>r)by rw[x.o];unfold encR;rw[hb];rfl)
  clear hb x;have I:=hI (fun(w2:World) (hb:Below w1.heap.size w1 w2)=>deeper_sum (F.o.belowW hb) (by omega) hm r hr D.o);obtain⟨R,J⟩:=eX ((if m=100 then failP ts k 5 else r));rw[←J]at I;have s:=hI J;clear J
  cases R with
  | out=>
   exfalso
   have i:=s.o
   split at i
   ·
    exact fail_out i.symm
   exact hr i.symm
  | bad ln co er=>
   have t:=hI (show o= .bad ln co er by
    have i:=s.o;rw[q.o]
    split at i
    ·
     rename_i h8
     rw[if_pos h8,i]
    rename_i h8
    rw[if_neg h8,←i])
   clear q s;go_wp2_with fail;refine p.o.mono ?_;rintro e w2 ⟨rfl,j⟩;go_wp2_with fail;refine(I.o w2 j.o).mono ?_;rintro e w3 ⟨rfl,y⟩;go_wp2_with fail;rw[t.o]
   exact⟨rfl,exr_bad (hI (grown_tr G.o (grown_tr (grown_of _ j.o) y.o)))⟩
  | ok T k1=>
   have aj:k1≤110000:=by
    have i:=s.o
    split at i
    ·
     exact(fail_ok i.symm).elim
    exact Y.o T k1 i.symm
   have t:=hI (show o=(if isS false ts k1 [41]then .ok T (k1+1)else unex ts k1)by
    have i:=s.o;rw[q.o]
    split at i
    ·
     exact(fail_ok i.symm).elim
    rename_i h8
    rw[if_neg h8,←i])
   clear q s;go_wp2_with fail;refine p.o.mono ?_;rintro e w2 ⟨rfl,j⟩;have ae:=j.o.size;go_wp2_with fail;refine(I.o w2 j.o).mono ?_;rintro e w3 ⟨v,rfl,af,y,S⟩;go_upto_region 4 with(fail);generalize hw4:World.alloc _ _=w4;obtain⟨B,U⟩:=gn1 hw4;clear hw4;have V:=S.o.b9 B;have W:=hI (grown_tr G.o (grown_tr (grown_of _ j.o) (grown_tr y.o (grown_of (some g) B.o))));have ag:w3.heap.size≠g:=Nat.ne_of_gt S.o.gl;have X:=hI (show some w3.heap.size≠some g from fun e=>ag (Option.some.inj e));have L:w.heap.size<w2.heap.size:=Nat.lt_of_lt_of_le ac ae;have ah:g<w2.heap.size:=Nat.lt_trans ab L
   cases hc:isS false ts k1 [41]with
   | false=>
    have M:=hI (show o=unex ts k1 by rw[t.o,hc];rfl);have N:=hI (pWantN V.o (by omega) ⟨#[41]⟩ (by rw[show kwP (⟨#[41]⟩:ByteArray).data.toList=false by decide];exact hc));clear hc t;go_wp2_with fail;refine N.o.mono ?_;rintro e w5 ⟨u,l⟩;obtain⟨c,hc⟩:=panU_pan ts k1;have H:=hI hc;rw[hc]at u;subst u;clear hc;go_wp2_with fail;rw[M.o]
    exact⟨rfl,exr_unex H.o.symm (hI (grown_tr W.o l.o))⟩
   | true=>
    have M:=hI (show o= .ok T (k1+1)by rw[t.o,hc];rfl);have N:=hI (pWantY V.o (by omega) ⟨#[41]⟩ (by rw[show kwP (⟨#[41]⟩:ByteArray).data.toList=false by decide];exact hc));clear hc t;go_wp2_with fail;refine N.o.mono ?_;rintro e w5 ⟨rfl,l,ai⟩;have O:=hI ((((Q.o.belowW j.o).grown y.o E.o).belowW B.o).grown l.o E.o);have a:=(U.o.grown l.o X.o).cell;have b:=(U.o.grown l.o X.o).frozen;obtain⟨r0,h0,r1,h1,R,h2,r3,h3,r4,h4,r5,h5⟩:=O.o.all6;go_wp2;rw[pst6 O.o];have z:=(O.o.put #[.i v.h.kind,.i v.h.n,.i v.h.d,.string v.h.name,.i v.h.k,.l v.A v.len v.cap]).cell;refine bodyPost_ret (v:= .agg #[.i v.h.kind,.i v.h.n,.i v.h.d,.string v.h.name,.i v.h.k,.l v.A v.len v.cap]) (by simp[results,Tryz.results234,go_sem,z]) rfl ?_;rw[M.o];exact⟨v,rfl,hI ((((af.o.belowW B.o).mv ah l.o).far L _ _).weaken (Nat.le_of_lt L)),hI (grown_new (grown_tr W.o l.o) (Nat.le_refl _) _ _),hI (ai.o.far Z aa _ _)⟩
theorem quotP_small{ts:List Tok}{k k1:Nat}{a:Int×Int}(h:quotP ts k= .ok a k1): -4611686018427387904≤a.1∧a.1≤4611686018427387904∧ -4611686018427387904≤a.2∧a.2≤4611686018427387904:=by
 unfold quotP at h
 cases hn:numP ts k with
 | ok b k2=>
  rw[hn]at h;simp only[PR.bind]at h
  split at h
  ·
   exact(unex_ok h).elim
  split at h
  ·
   exact(fail_ok h).elim
  split at h
  ·
   exact(fail_ok h).elim
  have hm:=make_small b.1 (read1 (tk ts (k2+1)).text).1;injection h with h1 h2;rw[←h1]
  exact⟨hm.1,hm.2.1,hm.2.2.1,hm.2.2.2.1⟩
 | bad l c e=>rw[hn]at h;cases h
 | out=>rw[hn]at h;cases h
theorem numP_small2{ts:List Tok}{k k1:Nat}{a:Int×Int}(h:numP ts k= .ok a k1): -4611686018427387904≤a.1∧a.1≤4611686018427387904∧ -4611686018427387904≤a.2∧a.2≤4611686018427387904:=by
 have h0:=numP_small h;unfold numP at h
 split at h
 ·
  exact(unex_ok h).elim
 split at h
 ·
  exact(fail_ok h).elim
 have hs:=read1_small (tk ts (k+signP ts k)).text;injection h with h1 h2;rw[←h1]at h0 ⊢;exact⟨h0.1,h0.2,hs.2.2.1,hs.2.2.2.1⟩
theorem hd_num{a:Int×Int}(h: -4611686018427387904≤a.1∧a.1≤4611686018427387904∧ -4611686018427387904≤a.2∧a.2≤4611686018427387904):HdOk ⟨1,a.1,a.2,⟨#[]⟩,0⟩:=by
 refine⟨?_,?_,?_,?_,?_,?_,?_,?_,Nat.zero_le _⟩<;>simp only<;>omega
def firstR(ts:List Tok)(k:Nat)(r:PR TE):PR TE:=if fracP ts k&& !isS false ts (k+signP ts k+3) [94]then(quotP ts k).map numE else r
theorem firstP_eq(nm:List UInt8→Bool)(ts:List Tok)(f k m:Nat):firstP nm ts (f+1) k m=firstR ts k (factorP nm ts f k m):=by
 rw[firstP.eq_def]
 rfl
theorem pFirst{w0 w:World}{g:Nat}{A:Option Addr}{len cap:Nat}{ts:List Tok}{k m:Nat}(h:Env w0 g A len cap ts k m w)(hk:k≤110000)(hR:RX w0)(r:PR TE)(hr:r≠ .out)
 (KF:∀w',Env w0 g A len cap ts k m w'→Calls Tryz.prog 151 #[.p g] w' (ExR w0 g A len cap ts m r w')):
 Calls Tryz.prog 150 #[.p g] w (ExR w0 g A len cap ts m (firstR ts k r) w):=by
 obtain⟨o,I⟩:=eX (firstR ts k r);have x:=hI I;have W:=hI KF;rw[←I];clear KF I
 go_in
 go_upto_region 1 with(fail);generalize hw1:World.alloc _ _=w1;obtain⟨X,J⟩:=gn1 hw1;clear hw1;have y:=hI (show some w.heap.size≠some g from fun e=>by have:=h.gl;injection e with e;omega)
 have L:w.heap.size≠g:=fun e=>y.o (by rw[e])
 have M:w0.heap.size≤w.heap.size:=h.b.size;have a0:g<w.heap.size:=h.gl;have q:=hI (h.belowW X.o);have Y:=hI (grown_of (some g) X.o);have a1:w.heap.size<w1.heap.size:=J.o.lt;clear h;have B:=hI (pFraction q.o (by omega))
 cases hb:fracP ts k with
 | false=>
  have i:=hI (show o=r by rw[x.o];unfold firstR;rw[hb];rfl);rw[hb]at B;clear hb x;go_wp2_with fail;refine B.o.mono ?_;rintro e w2 ⟨rfl,N⟩;have Z:=q.o.b9 N;have F2:=J.o.b9 N;have ab:=hI (grown_tr Y.o (grown_of (some g) N.o));have u:=hI (W.o w2 Z.o);have au:g<w2.heap.size:=Z.o.gl;have p:w.heap.size<w2.heap.size:=F2.o.lt
  cases r with
  | out=>exact(hr rfl).elim
  | bad ln co er=>
   go_wp2_with fail;refine u.o.mono ?_;rintro e w7 ⟨rfl,j⟩;go_wp2_with fail;rw[i.o]
   exact⟨rfl,exr_bad (hI (grown_tr ab.o j.o))⟩
  | ok T k1=>
   go_wp2_with fail;refine u.o.mono ?_;rintro e w7 ⟨v,rfl,O,j,P⟩;have l:=hI (F2.o.grown j.o y.o);obtain⟨r0,h0,r1,h1,r2,h2,r3,h3,r4,h4,r5,h5⟩:=l.o.all6;go_wp2;rw[pst6 l.o];have z:=(l.o.put #[.i v.h.kind,.i v.h.n,.i v.h.d,.string v.h.name,.i v.h.k,.l v.A v.len v.cap]).cell;refine bodyPost_ret (v:= .agg #[.i v.h.kind,.i v.h.n,.i v.h.d,.string v.h.name,.i v.h.k,.l v.A v.len v.cap]) (by simp[results,Tryz.results150,go_sem,z]) rfl ?_;rw[i.o]
   exact⟨v,rfl,hI ((O.o.far p _ _).weaken (Nat.le_of_lt p)),hI (grown_new (grown_tr ab.o j.o) (Nat.le_refl _) _ _),hI (P.o.far L M _ _)⟩
 | true=>
  rw[hb]at B;have hs:=signP_le ts k;obtain⟨s,Q⟩:=eX (signP ts k);have e1:IntKind.i64.wrap ((s:Int)+3)=(s:Int)+3:=(by rw[IntKind.wrap_i64];omega)
  obtain⟨c,hc⟩:∃c,isS false ts (k+(s+3)) [94]=c:=⟨_,rfl⟩
  have C:=hI (show o=if(!c)=true then(quotP ts k).map numE else r by
   rw[x.o];unfold firstR;rw[hb,←Q,Nat.add_assoc,hc]
   rfl)
  have KS:=hI (fun(w2:World) (hb:Below w1.heap.size w1 w2)=>pSign (q.o.belowW hb));have KU:=hI (fun(w2:World) (hb:Below w1.heap.size w1 w2)=>pIs (q.o.belowW hb) (s+3) (by omega) ⟨#[94]⟩);rw[show kwP (⟨#[94]⟩:ByteArray).data.toList=false by decide,show(⟨#[94]⟩:ByteArray).data.toList=[94]from rfl,hc]at KU;rw[←Q]at KS hs;clear hb x Q hc;go_wp2_with fail;refine B.o.mono ?_;rintro e w2 ⟨rfl,aq⟩;go_wp2_with fail;refine(KS.o w2 aq.o).mono ?_;rintro e w3 ⟨rfl,aw⟩;have ar:=aq.o.t aw;go_wp2_with fail;refine(KU.o w3 ar.o).mono ?_;rintro e w4 ⟨rfl,ax⟩;have R:=ar.o.t ax;have S:=q.o.b9 R;have D:=J.o.b9 R;have E:=hI (grown_tr Y.o (grown_of (some g) R.o))
  cases c with
  | true=>
   have i:=hI (show o=r by rw[C.o];rfl);clear C;have u:=hI (W.o w4 S.o);have au:g<w4.heap.size:=S.o.gl;have p:w.heap.size<w4.heap.size:=D.o.lt
   cases r with
   | out=>exact(hr rfl).elim
   | bad ln co er=>
    go_wp2_with fail;refine u.o.mono ?_;rintro e w7 ⟨rfl,j⟩;go_wp2_with fail;rw[i.o]
    exact⟨rfl,exr_bad (hI (grown_tr E.o j.o))⟩
   | ok T k1=>
    go_wp2_with fail;refine u.o.mono ?_;rintro e w7 ⟨v,rfl,O,j,P⟩;have l:=hI (D.o.grown j.o y.o);obtain⟨r0,h0,r1,h1,r2,h2,r3,h3,r4,h4,r5,h5⟩:=l.o.all6;go_wp2;rw[pst6 l.o];have z:=(l.o.put #[.i v.h.kind,.i v.h.n,.i v.h.d,.string v.h.name,.i v.h.k,.l v.A v.len v.cap]).cell;refine bodyPost_ret (v:= .agg #[.i v.h.kind,.i v.h.n,.i v.h.d,.string v.h.name,.i v.h.k,.l v.A v.len v.cap]) (by simp[results,Tryz.results150,go_sem,z]) rfl ?_;rw[i.o]
    exact⟨v,rfl,hI ((O.o.far p _ _).weaken (Nat.le_of_lt p)),hI (grown_new (grown_tr E.o j.o) (Nat.le_refl _) _ _),hI (P.o.far L M _ _)⟩
  | false=>
   have F:=hI (show o=(quotP ts k).map numE by rw[C.o];rfl);clear C;have G:=hI (pQuotient S.o (by omega) hR);have p:w.heap.size<w4.heap.size:=D.o.lt
   cases hq:quotP ts k with
   | out=>exact(quotP_out hq).elim
   | bad ln co er=>
    have i:=hI (show o= .bad ln co er by rw[F.o,hq];rfl);rw[hq]at G;clear hq F;go_wp2_with fail;refine G.o.mono ?_;rintro e w5 ⟨rfl,H⟩;go_wp2_with fail;rw[i.o]
    exact⟨rfl,exr_bad (hI (grown_tr E.o H.o))⟩
   | ok a k1=>
    have i:=hI (show o= .ok (numE a) k1 by rw[F.o,hq];rfl);have ay:=hd_num (quotP_small hq);rw[hq]at G;clear hq F;obtain⟨n,d⟩:=a;go_wp2_with fail;refine G.o.mono ?_;rintro e w5 ⟨rfl,H,az⟩;go_wp2_with fail;refine(pNum (n,d) w5).mono ?_;rintro e w6 ⟨rfl,U⟩;have V:=hI ((D.o.grown H.o y.o).belowW U.o);simp only[ndR,Nd.val];obtain⟨r0,h0,r1,h1,r2,h2,r3,h3,r4,h4,r5,h5⟩:=V.o.all6;go_wp2;rw[pst6 V.o];have z:=(V.o.put #[.i 1,.i n,.i d,.string ⟨#[]⟩,.i 0,.sn]).cell;refine bodyPost_ret (v:= .agg #[.i 1,.i n,.i d,.string ⟨#[]⟩,.i 0,.sn]) (by simp[results,Tryz.results150,go_sem,z]) rfl ?_;rw[i.o];exact⟨ndR (n,d),rfl,hI (inx_leaf _ _ _ ay),hI (grown_new (grown_tr E.o (grown_tr H.o (grown_of (some g) U.o))) (Nat.le_refl _) _ _),hI ((az.o.belowW U.o).far L M _ _)⟩
structure FxAt (w:World) (bm:Nat) (es:Array MapEntry) (clock:Nat):Prop where
  cell:w.cell? ⟨2,0,none⟩=some (.map (some bm))
  gl:2<w.heap.size
  heap:w.heap[bm]? =some (.map es clock)
theorem FxAt.lt{w:World}{bm:Nat}{es:Array MapEntry}{clock:Nat}(h:FxAt w bm es clock):bm<w.heap.size:=(Array.getElem?_eq_some_iff.1 h.heap).1
theorem FxAt.belowW{w w':World}{bm:Nat}{es:Array MapEntry}{clock:Nat}(h:FxAt w bm es clock)(hb:Below w.heap.size w w'):FxAt w' bm es clock:=
 ⟨by have h1:=h.cell;unfold World.cell? at h1 ⊢;rw[hb.block _ h.gl];exact h1,Nat.lt_of_lt_of_le h.gl hb.size,(hb.block _ h.lt).trans h.heap⟩
theorem FxAt.b9{w w':World}{bm:Nat}{es:Array MapEntry}{clock:Nat}(h:FxAt w bm es clock)(hb:Go.RowKit.Hid (Go.RowKit.Below w.heap.size w w')):Go.RowKit.Hid (FxAt w' bm es clock):=hI (FxAt.belowW h hb.o)
def FxLook(bm:Nat)(es:Array MapEntry)(clock:Nat):Prop:=∀(w:World) (l:List UInt8),l.length≤100→w.heap[bm]? =some (.map es clock)→
  (Instr.lookup 184 (.map (some bm)) (.string ⟨l.toArray⟩) false).run Tryz.prog w= .ok (.i (funK l)) w
def FX(w:World):Prop:=∃bm es clock,FxAt w bm es clock∧FxLook bm es clock
def nameR(ts:List Tok)(k:Nat):PR (List UInt8):=if(tk ts k).kind=1∧nameP (tk ts k).text=true then .ok (tk ts k).text (k+1)else unex ts k
def StP(w0:World)(g:Nat)(A:Option Addr)(len cap:Nat)(ts:List Tok)(m:Nat)(r:PR (List UInt8))(w:World)(e:Ending)(w':World):Prop:=
  match r with
  | .ok s k1=>e= .returned (.string ⟨s.toArray⟩)∧Hid (w.grownBy w' (some g))∧Hid (Env w0 g A len cap ts k1 m w')
  | .bad ln co er=>e=pan ln co er∧Hid (w.grownBy w' (some g))
  | .out=>False
theorem stp_unex{w0:World}{g:Nat}{A:Option Addr}{len cap:Nat}{ts:List Tok}{m k:Nat}{w w':World}{e:Ending}(he:e=panU ts k)(hg:Hid (w.grownBy w' (some g))):StP w0 g A len cap ts m (unex ts k) w e w':=by
 unfold unex failP;unfold panU at he
 split
 ·
  rename_i h
  rw[if_pos h]at he;exact⟨he,hg⟩
 rename_i h
 rw[if_neg h]at he;exact⟨he,hg⟩
theorem nameP_len{l:List UInt8}(h:nameP l=true):l.length≤20:=by
 unfold nameP at h;rw[Bool.and_eq_true,Bool.and_eq_true]at h;exact of_decide_eq_true h.1.2
theorem pName{w0 w:World}{g:Nat}{A:Option Addr}{len cap:Nat}{ts:List Tok}{k m:Nat}(h:Env w0 g A len cap ts k m w)(hk:k≤110000):Calls Tryz.prog 95 #[.p g] w (StP w0 g A len cap ts m (nameR ts k) w):=by
 have G:=hI h;have r:=hI (h.tok 0 (by omega));rw[Nat.add_zero]at r;have s:((⟨(tk ts k).text.toArray⟩:ByteArray)).size≤maxLen:=Nat.le_trans (show(tk ts k).text.toArray.size≤100 by rw[List.size_toArray];exact(h.t.tk k).1) (by decide);have j:=hI (show nameR ts k=if(tk ts k).kind=1∧nameP (tk ts k).text=true then .ok (tk ts k).text (k+1)else unex ts k from rfl);obtain⟨l,H⟩:=eX (nameR ts k);rw[←H]at j ⊢;obtain⟨T,I⟩:=eX (tk ts k);rw[←I]at r j s
 obtain⟨c,hc⟩:∃b,((T.kind:Int)==1)=b:=⟨_,rfl⟩
 obtain⟨n,u⟩:∃b,nameP T.text=b:=⟨_,rfl⟩
 have v:(T.kind=1)↔c=true:=(by rw[←hc,beq_iff_eq];omega);have a:=hI (show l=if c=true∧n=true then .ok T.text (k+1)else unex ts k by rw[j.o,u];exact ite_congr (propext ⟨fun h=>⟨v.1 h.1,h.2⟩,fun h=>⟨v.2 h.1,h.2⟩⟩) (fun _=>rfl) (fun _=>rfl));have x:=hI (fun w'=>name_any ⟨T.text.toArray⟩ w' s);have J:(⟨T.text.toArray⟩:ByteArray).data.toList=T.text:=rfl;rw[J,u]at x;clear h H j I u v J s
 go_in
 go_wp2_with fail;refine r.o.mono ?_;rintro e w1 ⟨rfl,y⟩;go_upto_region 2 with(fail);generalize hw2:World.alloc _ _=w2;obtain⟨L,z⟩:=gn1 hw2;clear hw2;have B:=hI (grown_tr (grown_of (some g) y.o) (grown_of (some g) L.o));have o:=hI ((G.o.belowW y.o).belowW L.o);have M:=z.o.cell 0;have q:=z.o.cell 1;simp only[List.getElem?_toArray,List.getElem?_cons_zero,List.getElem?_cons_succ]at M q
 cases c with
 | false=>
  have d:=hI (show l=unex ts k by rw[a.o,if_neg (fun h=>by cases h.1)]);clear a;have S:((T.kind:Int)!=1)=true:=(by rw[bne,hc];rfl);go_wp2_with fail;refine o.o.unx.mono ?_;rintro e w9 ⟨i,C⟩;obtain⟨c,hc⟩:=panU_pan ts k;have D:=hI hc;rw[hc]at i;subst i;clear hc;go_wp2_with fail;rw[d.o]
  exact⟨rfl,stp_unex D.o.symm (hI (grown_tr B.o (grown_of _ C.o)))⟩
 | true=>
  have S:((T.kind:Int)!=1)=false:=by rw[bne,hc];rfl
  cases n with
  | false=>
   have d:=hI (show l=unex ts k by rw[a.o,if_neg (fun h=>by cases h.2)]);clear a;go_wp2_with fail;refine(x.o _).mono ?_;rintro e E ⟨rfl,rfl⟩;go_wp2_with fail;refine o.o.unx.mono ?_;rintro e w9 ⟨i,C⟩;obtain⟨c,hc⟩:=panU_pan ts k;have D:=hI hc;rw[hc]at i;subst i;clear hc;go_wp2_with fail;rw[d.o]
   exact⟨rfl,stp_unex D.o.symm (hI (grown_tr B.o (grown_of _ C.o)))⟩
  | true=>
   have d:=hI (show l= .ok T.text (k+1)by rw[a.o,if_pos ⟨rfl,rfl⟩]);clear a;have e1:IntKind.i64.wrap ((k:Int)+1)=(k:Int)+1:=(by rw[IntKind.wrap_i64];omega);go_wp2_with fail;refine(x.o _).mono ?_;rintro e E ⟨rfl,rfl⟩;have N:=hI (show Blk w2 g 124 #[.l A len cap,.i (k:Nat),.i (m:Nat)]from o.o.p);obtain⟨U,V,W,X,Y,Z⟩:=N.o.all3;go_upto_region 5 with(fail);rw[N.o.setCell_eq];have aa:=hI (show w1.heap.size≠g from fun e=>by have:=(G.o.belowW y.o).gl;omega);have O:=hI (o.o.put (k+1) m (by omega));have P:=hI (z.o.far (t':=124) aa.o #[.l A len cap,.i ((k+1:Nat):Int),.i (m:Nat)]);have Q:=hI (putB_grown w2 g 124 #[.l A len cap,.i ((k+1:Nat):Int),.i (m:Nat)]);obtain⟨E,F⟩:=eX (putB w2 g 124 #[.l A len cap,.i ((k+1:Nat):Int),.i (m:Nat)]);have R:putB w2 g 124 ((#[.l A len cap,.i (k:Nat),.i (m:Nat)]:Array Value).setIfInBounds 1 (.i ((k:Int)+1)))=E:=(by rw[F];rfl);rw[←F]at O P Q;rw[R];clear F R U V W X Y Z M q;have q:=P.o.cell 1;simp only[List.getElem?_toArray,List.getElem?_cons_zero,List.getElem?_cons_succ]at q;go_wp2;go_ret;rw[d.o];exact⟨rfl,hI (grown_tr B.o Q.o),O⟩
