import Derived.Test.YtgcjmhjjpbcfmaaGreatDoorQK
open List renaming setIfInBounds_toArray → Lj,set_cons_zero → Lk,set_cons_succ → Lq,getElem_toArray → Ly,getElem_cons_zero → Lz,getElem_cons_succ → Lv
set_option maxHeartbeats 4000000
set_option maxRecDepth 100000
namespace Go.Proofs.YtgcjmhjjpbcfmaaGreatDoor
open Go.RowKit Go.Fl Go.Fl.Lx Go.Fl.Nm Go.Fl.Fm Go.Fl.Rt Go.Fl.Pa
theorem pst1{w:World}{g:Nat}{t:TypeId}{a:Value}(hB:Blk w g t #[a])(a':Value):w.setCell ⟨g,0,none⟩ a'=putB w g t #[a']:=by
 rw[hB.setCell_eq 0 a']
 rfl
end Go.Proofs.YtgcjmhjjpbcfmaaGreatDoor
namespace Go
open Go.Proofs.YtgcjmhjjpbcfmaaGreatDoor
open Go.RowKit Go.Fl Go.Fl.Lx Go.Fl.Nm Go.Fl.Fm Go.Fl.Rt Go.Fl.Pa
theorem Fl.Blk.all1{w:World}{g:Nat}{t:TypeId}{a:Value}(h:Blk w g t #[a]):w.cell? ⟨g,0,none⟩=some a∧w.frozen? ⟨g,0,none⟩=false:=⟨h.cell 0,h.frozen 0⟩
end Go
namespace Go.Proofs.YtgcjmhjjpbcfmaaGreatDoor
open Go.RowKit Go.Fl Go.Fl.Lx Go.Fl.Nm Go.Fl.Fm Go.Fl.Rt Go.Fl.Pa
structure Gr2 (w w':World) (g r:Nat):Prop where
  os:w'.os=w.os
  tape:w'.tape=w.tape
  output:w'.output=w.output
  size:w.heap.size≤w'.heap.size
  block:∀k,k<w.heap.size→k≠g→k≠r→w'.heap[k]? =w.heap[k]?
theorem Gr2.of{w w':World}{g r:Nat}(h:w.grownBy w' (some g)):Gr2 w w' g r:=⟨h.os,h.tape,h.output,h.size,fun k hk hg _=>h.block k hk (fun e=>hg (Option.some.inj e))⟩
theorem Gr2.put{w w':World}{g r:Nat}(h:Gr2 w w' g r)(t:TypeId)(V:Array Value):Gr2 w (putB w' r t V) g r:=
 ⟨h.os,h.tape,h.output,by rw[putB_size];exact h.size,fun k hk hg hr=>by
  unfold putB;rw[Array.getElem?_setIfInBounds,if_neg (fun e=>hr e.symm)]
  exact h.block k hk hg hr⟩
theorem Gr2.put1{w w':World}{g r:Nat}(h:Gr2 w w' g r)(t:TypeId)(V:Array Value):Gr2 w (putB w' g t V) g r:=
 ⟨h.os,h.tape,h.output,by rw[putB_size];exact h.size,fun k hk hg hr=>by
  unfold putB;rw[Array.getElem?_setIfInBounds,if_neg (fun e=>hg e.symm)]
  exact h.block k hk hg hr⟩
theorem Gr2.refl(w:World)(g r:Nat):Gr2 w w g r:=⟨rfl,rfl,rfl,Nat.le_refl _,fun _ _ _ _=>rfl⟩
theorem Gr2.tr{w w' w2:World}{g r:Nat}(h:Gr2 w w' g r)(hb:Below w'.heap.size w' w2):Gr2 w w2 g r:=
 ⟨hb.os.trans h.os,hb.tape.trans h.tape,hb.output.trans h.output,Nat.le_trans h.size hb.size,fun k hk hg hr=>(hb.block k (Nat.lt_of_lt_of_le hk h.size)).trans (h.block k hk hg hr)⟩
theorem Blk.gr2{w w':World}{g r b:Nat}{t:TypeId}{V:Array Value}(hB:Blk w b t V)(h:Gr2 w w' g r)(hg:b≠g)(hr:b≠r):Blk w' b t V:=by
 have hl:=Blk.lt hB;have e:=h.block b hl hg hr
 unfold Blk at hB ⊢
 rw[e];exact hB
theorem Env.store{w0 w:World}{g r:Nat}{A:Option Addr}{len cap:Nat}{ts:List Tok}{k m:Nat}(h:Env w0 g A len cap ts k m w)(hr:r<w0.heap.size)(hA:0<len→∀b o,A=some ⟨b,o,none⟩→b≠r)(t:TypeId)(V:Array Value):
 Env (putB w0 r t V) g A len cap ts k m (putB w r t V):=by
 have hrg:r≠g:=(by have:=h.lo;omega);refine⟨⟨h.t.hl,h.t.hc,h.t.hm,h.t.hs,⟨h.t.hr.1,fun hn=>?_⟩,h.t.ht⟩,⟨h.b.os,h.b.tape,h.b.output,by rw[putB_size,putB_size];exact h.b.size,fun k hk=>?_⟩,by rw[putB_size];exact h.lo,Blk.far h.p (Ne.symm hrg) V,h.kk⟩
 ·
  obtain⟨b,off,hb,hlt,hcell⟩:=h.t.hr.2 hn;refine⟨b,off,hb,by rw[putB_size];exact hlt,fun j u hu=>?_⟩;have h1:=hcell j u hu;have h2:=hA hn b off hb
  unfold World.cell? putB at *
  rw[Array.getElem?_setIfInBounds,if_neg (fun e=>h2 e.symm)];exact h1
 rw[putB_size]at hk;unfold putB;rw[Array.getElem?_setIfInBounds,Array.getElem?_setIfInBounds,h.b.block k hk]
 by_cases e:r=k
 ·
  rw[if_pos e,if_pos e,if_pos hr,if_pos (Nat.lt_of_lt_of_le hr h.b.size)]
 rw[if_neg e,if_neg e]
theorem FX.belowW{w w':World}(h:FX w)(hb:Below w.heap.size w w'):FX w':=by
 obtain⟨bm,es,ck,h1,h2⟩:=h;exact⟨bm,es,ck,h1.belowW hb,h2⟩
theorem FX.b9{w w':World}(h:FX w)(hb:Go.RowKit.Hid (Go.RowKit.Below w.heap.size w w')):Go.RowKit.Hid (FX w'):=hI (FX.belowW h hb.o)
def E1P(g:Nat)(A:Option Addr)(len cap:Nat)(ts:List Tok)(bx:Nat)(r:PR TE)(w:World)(e:Ending)(w':World):Prop:=
  match r with
  | .ok T k1=>∃(v:Nd) (w1:World),e= .returned (.bool (okE T))∧Hid (Blk w' bx 57 #[.int .i64 v.h.kind,.int .i64 v.h.n,.int .i64 v.h.d,.string v.h.name,.int .i64 v.h.k,.slice v.A v.len v.cap])∧Hid (InX w.heap.size w' T v)∧Hid (Env w1 g A len cap ts k1 0 w')∧Hid (Gr2 w w' g bx)
  | .bad ln co er=>e=pan ln co er∧Hid (Gr2 w w' g bx)
  | .out=>False
theorem e1p_bad{g:Nat}{A:Option Addr}{len cap:Nat}{ts:List Tok}{bx ln co er:Nat}{w w':World}(h:Hid (Gr2 w w' g bx)):E1P g A len cap ts bx (.bad ln co er) w (pan ln co er) w':=⟨rfl,h⟩
theorem pExpr1{w0 w:World}{g:Nat}{A:Option Addr}{len cap:Nat}{ts:List Tok}(h:Env w0 g A len cap ts 0 0 w)(hR:RX w0)(hX:FX w0)(hD:DigTs ts)(bx:Nat)(hbx:bx<w0.heap.size)(hB:Blk w0 bx 57 #[.i 0,.i 0,.i 0,.string ⟨#[]⟩,.i 0,.sn])
 (hA:0<len→∀b o,A=some ⟨b,o,none⟩→b≠bx):
 Calls Tryz.prog 71 #[.p g,.p bx] w (E1P g A len cap ts bx (sumP nameP ts (8*ts.length+8) 0 0) w):=by
 have l:=hI (sum_any w0 w g A len cap ts hR hX hD h (8*ts.length+8) (Nat.le_refl _));have s:=(enough (nm:=nameP) (ts:=ts) (8*ts.length+8)).1 0 0 (by omega);have u:=hI (hB.belowW h.b);have Q:bx≠g:=(by have:=h.lo;omega);have R:=hI (show some bx≠some g from fun e=>Q (Option.some.inj e));have S:bx<w.heap.size:=Blk.lt u.o;obtain⟨r,x⟩:=eX (sumP nameP ts (8*ts.length+8) 0 0);rw[←x]at l s ⊢;have U:=hI hA;clear h hB hR hX x hA
 cases r with
 | out=>exact(s rfl).elim
 | bad ln co er=>
  go_in
  go_wp2_with fail;refine l.o.mono ?_;rintro e w1 ⟨rfl,c⟩;go_wp2_with fail
  exact⟨rfl,e1p_bad (hI (Gr2.of (r:=bx) c.o))⟩
 | ok T k1=>
  go_in
  go_wp2_with fail;refine l.o.mono ?_;rintro e w1 ⟨v,rfl,V,c,W⟩;have m:=hI (u.o.grown c.o R.o);obtain⟨y,z,B,C,D,E,F,G,H,I,J,L⟩:=m.o.all6;go_upto_region 2 with(fail);rw[pst6 m.o];obtain⟨a,p⟩:=eX (#[.i v.h.kind,.i v.h.n,.i v.h.d,.string v.h.name,.i v.h.k,.l v.A v.len v.cap]:Array Value);have i:=hI (m.o.put a);have M:=hI (W.o.store hbx U.o 57 a);have q:=hI (V.o.far S 57 a);have N:=hI (Gr2.put (Gr2.of (r:=bx) c.o) 57 a);obtain⟨O,P⟩:=eX (putB w1 bx 57 a);rw[←p];rw[←P]at i M q N ⊢;clear P y z B C D E F G H I J L;rw[p]at i;clear p;obtain⟨y,z,B,C,D,E,F,G,H,I,J,L⟩:=i.o.all6;go_wp2_with fail;refine(show Calls Tryz.prog 73 #[.agg #[.i v.h.kind,.i v.h.n,.i v.h.d,.string v.h.name,.i v.h.k,.l v.A v.len v.cap]] O _ from eValid_p T v O q.o.toE).mono ?_;rintro e w3 ⟨rfl,j⟩;go_wp2;go_ret;exact⟨v,_,rfl,i.o.b9 j,q.o.b9 j,M.o.b9 j,hI (N.o.tr j.o)⟩
theorem run1_idle(p q:Addr)(w:World):
 CallsD Tryz.prog 51 #[.pointer (some p),.pointer (some q)] .returning w fun e u' w'=>e= .returned (.tuple #[])∧u'= .returning∧w'=w:=by
 refine callsD_of_wpS Tryz.func51 rfl fun c₀ cs hu=>?_
 apply wpS_seq
 apply wpS_region
 simp[wpOpsS,go_sem,recoverD,hu,Tryz.ntmps51,Exit.thenS]
 apply wpS_seq
 apply wpS_region
 simp[wpOpsS,go_sem,Exit.thenS]
 refine wpS_cond (t:=false) (by simp[Act.eval,Array.replicate]) ?_;simp only[Bool.false_eq_true,if_false];refine wpS_of_wp (wp_skip ?_)
 cases c₀
 simp_all[bodyPostS,results,Tryz.results51]
theorem run1_panic(r1 r2:Nat)(a0 a1 a2:Int)(ln co er:Int)(older:List PanicEntry)(w:World)(h1:Blk w r1 63 #[.i a0,.i a1])(h2:Blk w r2 34 #[.i a2])(hne:r1≠r2):
 CallsD Tryz.prog 51 #[.p r1,.p r2] (.panicking ({v:= .iface 121 (.agg #[.i ln,.i co,.i er]),recovered:=false}::older)) w fun e u' w'=>
  e= .returned (.tuple #[])∧u'= .panicking ({v:= .iface 121 (.agg #[.i ln,.i co,.i er]),recovered:=true}::older)∧
   Hid (Blk w' r1 63 #[.i ln,.i co])∧Hid (Blk w' r2 34 #[.i er])∧Hid (Gr2 w w' r1 r2):=by
 refine callsD_of_wpS Tryz.func51 rfl fun c₀ cs j=>?_
 apply wpS_seq
 apply wpS_region
 simp[wpOpsS,go_sem,recoverD,j,Tryz.ntmps51,Exit.thenS]
 refine wpS_of_wp (wp_mono (Q:=fun e a' w'=>e= .normal∧a'.defers=[]∧Hid (Blk w' r1 63 #[.i ln,.i co])∧Hid (Blk w' r2 34 #[.i er])∧Hid (Gr2 w w' r1 r2)) ?_ ?_)
 case refine_2=>
  rintro e a' w' ⟨rfl,M,N,O,P⟩
  cases c₀
  simp_all[bodyPostS,results,Tryz.results51]
 clear j;have p:=hI h1;have q:=hI h2;clear h1 h2
 change Code.wp _ _ _ {tmps:=#[.p r1,.p r2,.iface 121 (.agg #[.i ln,.i co,.i er]),undef,undef,.iface 121 (.agg #[.i ln,.i co,.i er]),undef,undef,undef,undef,undef,undef,undef,undef,undef,undef,undef,undef,undef,undef],defers:=[]} w
 have F:∀w:World,(Instr.typeAssert (.iface 121 (.agg #[.i ln,.i co,.i er])) 20 121 true).run Tryz.prog w= .ok (.tuple #[.agg #[.i ln,.i co,.i er],.b true]) w:=fun w=>by
  have j:=Tryz.underlying121
  simp[Instr.typeAssert,run_underlying j,Result.andThen]
 go_upto_region 2 with(fail);go_upto_region 3 with(fail);clear F;generalize hw1:World.alloc _ _=w1;obtain⟨k,G⟩:=gn1 hw1;clear hw1;have H:r1≠w.heap.size:=Nat.ne_of_lt p.o.lt;have I:r2≠w.heap.size:=Nat.ne_of_lt q.o.lt;go_upto_region 5 with(fail);have a:=hI (below_dr w1);have l:=G.o.b9 a;have b:=hI ((p.o.belowW k.o).belowW a.o);have s:=hI ((q.o.belowW k.o).belowW a.o);have u:=hI ((Gr2.tr (g:=r1) (r:=r2) (Gr2.refl w r1 r2) k.o).tr a.o)
 refine wp_region_held_drew (S:=fun w'=>cz3 w' w.heap.size (.i ln) (.i co) (.i er)) (by kernel_rfl) l.o.cz3 fun hHeld=>?_
 obtain⟨J,x⟩:=eX (w1.drew);rw[←x]at a l b s u hHeld ⊢;clear x;refine tkW 0 ?_;refine tkW 1 ?_;refine tkW 2 ?_;refine tkW 3 ?_
 refine wr1 4 fun K hK=>?_
 have m:=b.o.cell;have n:=b.o.frozen;go_simp;rw[pst2 b.o];clear m n;have o:=hI (l.o.far (t':=63) (Ne.symm H) #[.i ln,.i co]);have d:=hI (s.o.far (t':=63) (Ne.symm hne) #[.i ln,.i co]);have y:=hI (u.o.put1 63 #[.i ln,.i co]);have z:=hI (b.o.put #[.i ln,.i co]);obtain⟨L,i⟩:=eX (putB J (r1) 63 #[.i ln,.i co]);rw[←i]at o d y z ⊢;clear i hHeld
 refine hK.out _ _ o.o.cz3 fun hHeld=>?_
 clear hK K
 try simp only[Lj,Lk,Lq]
 refine wr1 5 fun K hK=>?_
 have m:=d.o.cell;have n:=d.o.frozen;go_simp;rw[pst1 d.o];clear m n;have B:=hI (o.o.far (t':=34) (Ne.symm I) #[.i er]);have C:=hI (y.o.put 34 #[.i er]);have D:=hI (z.o.far (t':=34) hne #[.i er]);have E:=hI (d.o.put #[.i er]);obtain⟨R,i⟩:=eX (putB L (r2) 34 #[.i er]);rw[←i]at B C D E ⊢;clear i hHeld
 refine hK.out _ _ B.o.cz3 fun hHeld=>?_
 clear hK K
 try simp only[Lj,Lk,Lq]
 refine wpAnyH_done (by kernel_rfl) ?_ _;go_wp2_with fail
 all_goals exact⟨rfl,rfl,D,E,C⟩
end Go.Proofs.YtgcjmhjjpbcfmaaGreatDoor
namespace Go.Fl.Pa
open Go.Fl.Lx Go.Fl.Fm Go.Fl.Rt
def ErrAt(ts:List Tok)(ln co er:Nat):Prop:=(ln=0∧co=0∧er=4)∨∃k,k<ts.length∧ln=(tk ts k).line∧co=(tk ts k).col∧er≠0∧er≠4∧er≤20
def ErN(e:Int):Prop:=e=0∨e=3∨e=5∨e=9∨e=10
theorem make_err(x y:Int):ErN (make x y).2.2:=by
 unfold make
 split
 ·
  exact .inr (.inr (.inr (.inr rfl)))
 split
 ·
  exact .inr (.inr (.inr (.inl rfl)))
 exact .inl rfl
theorem read1_err(l:List UInt8):ErN (read1 l).2.2:=by
 have ite_P:∀(c:Prop) [Decidable c] (a b:Int×Int×Int),ErN a.2.2→ErN b.2.2→ErN (if c then a else b).2.2:=fun c _ a b ha hb=>by split<;>assumption
 unfold read1;exact ite_P _ _ _ (.inr (.inl rfl)) (ite_P _ _ _ (.inr (.inr (.inl rfl))) (make_err _ _))
section
variable {ts:List Tok}
theorem unex_bad{α:Type}{k ln co er:Nat}(h:(unex ts k:PR α)= .bad ln co er):ErrAt ts ln co er:=by
 unfold unex failP at h
 split at h
 ·
  injection h with h1 h2 h3;exact .inl ⟨h1.symm,h2.symm,h3.symm⟩
 rename_i hk
 injection h with h1 h2 h3;exact .inr ⟨k,by omega,h1.symm,h2.symm,by omega,by omega,by omega⟩
theorem fail_bad{α:Type}{k e ln co er:Nat}(hk:k<ts.length)(he:e≠0∧e≠4∧e≤20)(h:(failP ts k e:PR α)= .bad ln co er):ErrAt ts ln co er:=by
 unfold failP at h;injection h with h1 h2 h3;exact .inr ⟨k,hk,h1.symm,h2.symm,by omega,by omega,by omega⟩
theorem numP_bad{k ln co er:Nat}(h:numP ts k= .bad ln co er):ErrAt ts ln co er:=by
 unfold numP at h
 split at h
 ·
  exact unex_bad h
 rename_i h2
 split at h
 ·
  rename_i h3
  have:=read1_err (tk ts (k+signP ts k)).text;unfold ErN at this;exact fail_bad (tk_lt (by omega)) (by omega) h
 cases h
theorem frac_tok{k:Nat}(h:fracP ts k=true):(tk ts (k+signP ts k)).kind=2∧(tk ts (k+signP ts k+2)).kind=2∧isS false ts (k+signP ts k+1) [47]=true:=by
 unfold fracP integerP at h;simp only[Bool.and_eq_true,beq_iff_eq]at h;exact⟨h.1.1,h.2.2.1,h.2.1⟩
theorem numP_next{k k1:Nat}{r:Int×Int}(h:numP ts k= .ok r k1):k1=k+signP ts k+1:=by
 unfold numP at h
 split at h
 ·
  exact(unex_ok h).elim
 split at h
 ·
  exact(fail_ok h).elim
 injection h with h3 h4;exact h4.symm
theorem quotP_bad{k ln co er:Nat}(hf:fracP ts k=true)(h:quotP ts k= .bad ln co er):ErrAt ts ln co er:=by
 unfold quotP at h;obtain⟨f1,f2,f3⟩:=frac_tok hf
 cases hn:numP ts k with
 | ok a k2=>
  rw[hn]at h;simp only[PR.bind]at h;have hk2:=numP_next hn;have hlt:k2+1<ts.length:=tk_lt (by rw[hk2];rw[show k+signP ts k+1+1=k+signP ts k+2 from rfl,f2];decide)
  split at h
  ·
   exact unex_bad h
  split at h
  ·
   have:=read1_err (tk ts (k2+1)).text;unfold ErN at this;exact fail_bad hlt (by omega) h
  split at h
  ·
   have:=make_err a.1 (read1 (tk ts (k2+1)).text).1;unfold ErN at this;exact fail_bad hlt (by omega) h
  cases h
 | bad l c e=>
  rw[hn]at h;injection h with h1 h2 h3;subst h1 h2 h3
  exact numP_bad hn
 | out=>rw[hn]at h;cases h
theorem map_bad{α β:Type}{f:α→β}{r:PR α}{ln co er:Nat}(h:r.map f= .bad ln co er):r= .bad ln co er:=by
 cases r with
 | ok a k1=>cases h
 | bad l c e=>injection h with h1 h2 h3;rw[h1,h2,h3]
 | out=>cases h
end
section
variable {nm:List UInt8→Bool} {ts:List Tok}
theorem rule_bad:∀f:Nat,
 (∀k n ln co er,sumP nm ts f k n= .bad ln co er→ErrAt ts ln co er)∧(∀e0 k n ln co er,chS nm ts f e0 k n= .bad ln co er→ErrAt ts ln co er)∧
 (∀k n ln co er,termP nm ts f k n= .bad ln co er→ErrAt ts ln co er)∧(∀e0 k n ln co er,chT nm ts f e0 k n= .bad ln co er→ErrAt ts ln co er)∧
 (∀k n ln co er,firstP nm ts f k n= .bad ln co er→ErrAt ts ln co er)∧(∀k n ln co er,factorP nm ts f k n= .bad ln co er→ErrAt ts ln co er)∧
 (∀k n ln co er,atomP nm ts f k n= .bad ln co er→ErrAt ts ln co er)∧(∀k n ln co er,encP nm ts f k n= .bad ln co er→ErrAt ts ln co er):=by
 intro f
 induction f with
 | zero=>
  refine⟨?_,?_,?_,?_,?_,?_,?_,?_⟩<;>intros<;>rename_i h<;>first | (unfold sumP at h;cases h) | (unfold chS at h;cases h) | (unfold termP at h;cases h) | (unfold chT at h;cases h) | (unfold firstP at h;cases h) | (unfold factorP at h;cases h) | (unfold atomP at h;cases h) | (unfold encP at h;cases h)
 | succ f ih=>
  obtain⟨j,c,d,g,l,a,m,i⟩:=ih;refine⟨?_,?_,?_,?_,?_,?_,?_,?_⟩
  ·
   intro k n ln co er h;unfold sumP at h
   split at h
   ·
    exact c _ _ _ _ _ _ h
   exact d _ _ _ _ _ h
  ·
   intro e0 k n ln co er h;unfold chS at h
   split at h
   ·
    split at h
    ·
     exact c _ _ _ _ _ _ h
    exact d _ _ _ _ _ h
   cases h
  ·
   intro k n ln co er h;unfold termP at h
   split at h
   ·
    exact g _ _ _ _ _ _ h
   exact l _ _ _ _ _ h
  ·
   intro e0 k n ln co er h;unfold chT at h
   split at h
   ·
    split at h
    ·
     exact g _ _ _ _ _ _ h
    exact a _ _ _ _ _ h
   cases h
  ·
   intro k n ln co er h;unfold firstP at h
   split at h
   ·
    rename_i hf
    rw[Bool.and_eq_true]at hf;exact quotP_bad hf.1 (map_bad h)
   exact a _ _ _ _ _ h
  ·
   intro k n ln co er h;unfold factorP at h
   split at h
   ·
    exact numP_bad (map_bad h)
   split at h
   ·
    rename_i hs
    have b:k<ts.length:=by
     unfold signP at hs
     split at hs
     ·
      rename_i h6
      exact isS_lt h6
     cases hs
    split at h
    ·
     exact fail_bad b (by omega) h
    split at h
    ·
     cases h
    exact a _ _ _ _ _ h
   split at h
   ·
    split at h
    ·
     split at h
     ·
      exact unex_bad h
     rename_i h8
     split at h
     ·
      refine fail_bad (tk_lt ?_) (by omega) h;intro h9
      apply h8
      unfold integerP;rw[h9]
      rfl
     cases h
    cases h
   exact m _ _ _ _ _ h
  ·
   intro k n ln co er h;unfold atomP at h
   split at h
   ·
    exact numP_bad (map_bad h)
   split at h
   ·
    cases h
   split at h
   ·
    split at h
    ·
     cases h
    exact i _ _ _ _ _ h
   exact i _ _ _ _ _ h
  intro k n ln co er h;unfold encP at h
  split at h
  ·
   rename_i h6
   have b:=isS_lt h6
   split at h
   ·
    exact fail_bad b (by omega) h
   split at h
   ·
    split at h
    ·
     cases h
    exact unex_bad h
   exact j _ _ _ _ _ h
  exact unex_bad h
end
end Go.Fl.Pa
namespace Go.Proofs.YtgcjmhjjpbcfmaaGreatDoor
open Go.RowKit Go.Fl Go.Fl.Lx Go.Fl.Nm Go.Fl.Fm Go.Fl.Rt Go.Fl.Pa
def runS{α:Type}(ts:List Tok)(v:α→Bool)(r:PR α):(Nat×Nat×Nat)×Option α:=
  match r with
  | .ok T k1=>if k1<ts.length then(((tk ts k1).line,(tk ts k1).col,3),none)else if v T then((0,0,0),some T)else((0,0,5),some T)
  | .bad ln co er=>((ln,co,er),none)
  | .out=>((0,0,0),none)
def runR{α:Type}(l:List UInt8)(rd:List Tok→PR α)(v:α→Bool):(Nat×Nat×Nat)×Option α:=
  match lexRes l with
  | .error e=>(e,none)
  | .ok ts=>runS ts v (rd ts)
def exprR(l:List UInt8):(Nat×Nat×Nat)×Option TE:=runR l (fun ts=>sumP nameP ts (8*ts.length+8) 0 0) okE
def RunP(Q:World→World→Prop)(bx:Nat)(r:Nat×Nat×Nat)(w:World)(e:Ending)(w':World):Prop:=
  e= .returned (.tuple #[.agg #[.i r.1,.i r.2.1],.i r.2.2])∧Hid (w.grownBy w' (some bx))∧Hid (r.2.2=0→Q w w')
theorem wp_norm{P:Program}{c:Code}{Q':Exit→Act→World→Prop}{a:Act}{w:World}(h:c.wp P (fun e a w=>match e with | .normal=>Q' .normal a w | _=>False) a w):c.wp P Q' a w:=
 wp_mono h (fun e a w h=>by cases e<;>first | exact h | exact h.elim)
def GotE(o:Option TE)(bx:Nat)(w w':World):Prop:=∃T v,o=some T∧Hid (Blk w' bx 57 #[.i v.h.kind,.i v.h.n,.i v.h.d,.string v.h.name,.i v.h.k,.l v.A v.len v.cap])∧Hid (InX w.heap.size w' T v)
theorem gr2_new{w w5 w6:World}{r r1 r2:Nat}(h:w.grownBy w5 (some r))(h1:w.heap.size≤r1)(h2:w.heap.size≤r2)(h6:Gr2 w5 w6 r1 r2):w.grownBy w6 (some r):=
 ⟨h6.os.trans h.os,h6.tape.trans h.tape,h6.output.trans h.output,Nat.le_trans h.size h6.size,fun k hk hr=>(h6.block k (Nat.lt_of_lt_of_le hk h.size) (by omega) (by omega)).trans (h.block k hk hr)⟩
theorem errat_ne{ts:List Tok}{ln co er:Nat}(h:ErrAt ts ln co er):¬er=0:=by
 rcases h with⟨_,_,e⟩ | ⟨k,_,_,_,e,_⟩<;>omega
theorem gr2_w{w w4 w5:World}{g r:Nat}(ho:Below w.heap.size w w4)(hg:w.heap.size≤g)(h:Gr2 w4 w5 g r):w.grownBy w5 (some r):=
 ⟨h.os.trans ho.os,h.tape.trans ho.tape,h.output.trans ho.output,Nat.le_trans ho.size h.size,fun k hk hr=>(h.block k (Nat.lt_of_lt_of_le hk ho.size) (by omega) (fun e=>hr (by rw[e]))).trans (ho.block k hk)⟩
theorem TsAt.put{w:World}{r:Nat}{A:Option Addr}{len cap:Nat}{ts:List Tok}(h:TsAt w A len cap ts)(hA:0<len→∀b o,A=some ⟨b,o,none⟩→b≠r)(t:TypeId)(V:Array Value):TsAt (putB w r t V) A len cap ts:=by
 refine⟨h.hl,h.hc,h.hm,h.hs,⟨h.hr.1,fun hn=>?_⟩,h.ht⟩;obtain⟨b,off,hb,hlt,hcell⟩:=h.hr.2 hn;refine⟨b,off,hb,by rw[putB_size];exact hlt,fun j u hu=>?_⟩;have h1:=hcell j u hu;have h2:=hA hn b off hb
 unfold World.cell? putB at *
 rw[Array.getElem?_setIfInBounds,if_neg (fun e=>h2 e.symm)];exact h1
theorem Env.at0{w:World}{A:Option Addr}{len cap:Nat}{ts:List Tok}(h:TsAt w A len cap ts):Env w w.heap.size A len cap ts 0 0 (w.alloc (Obj.cells #[.l A len cap,.i 0,.i 0] 124)):=
 ⟨h,below_box _ _,Nat.le_refl _,Blk.new _ _ _,by omega⟩
theorem ts_of{l:List UInt8}{ts:List Tok}(h:lexRes l= .ok ts){w:World}{B:Nat}{v:Value}(ho:w.ownsRow B 165 4 v ts.length (toksCells ts)):
 DigTs ts∧∃A len cap,v= .l A len cap∧len=ts.length∧TsAt w A len cap ts∧(0<len→∀b o,A=some ⟨b,o,none⟩→B≤b):=by
 obtain⟨r,s,i⟩:=lex_facts h
 have m:∀k,(tk ts k).kind≠0→tk ts k∈ts:=fun k hk=>List.mem_of_getElem? (tk_at (tk_lt hk))
 constructor
 ·
  intro k hk c hc;have a:=(i _ (m k (by omega))).1
  rcases a with⟨f,_⟩ | ⟨_,f⟩
  ·
   omega
  have n:=num_all _ (kind2 _ (f.trans hk)).2;have h7:=List.all_eq_true.1 n c hc;unfold inNum isDigit at h7;simp only[Bool.or_eq_true,beq_iff_eq,Bool.and_eq_true,decide_eq_true_eq]at h7
  rcases h7 with h7 | h7
  ·
   rw[h7];exact .inl rfl
  exact .inr ⟨UInt8.le_iff_toNat_le.1 h7.1,UInt8.le_iff_toNat_le.1 h7.2⟩
 have j:=ho;obtain⟨A,c,d,p,q,u⟩:=Rd.of_own ho;refine⟨A,ts.length,c,d,rfl,⟨rfl,q,?_,by omega,p,fun t ht=>?_⟩,fun hn b o hA=>?_⟩
 ·
  rcases j.2 with⟨e,_⟩ | ⟨g,cap,cur,e,_,_,_,e2,_⟩
  ·
   rw[d]at e;injection e with e1 e2 e3
   all_goals omega
  rw[d]at e;injection e with e1 e2' e3
  all_goals omega
 ·
  have a:=i t ht;have f:=tok_len a.1;refine⟨by omega,?_,by omega,by omega⟩
  rcases a.1 with⟨e,_⟩ | ⟨e,_⟩<;>omega
 rcases j.2 with⟨e,e2⟩ | ⟨g,cap,cur,e,e2,_⟩
 ·
  omega
 rw[d,hA]at e;injection e with e1;injection e1 with e1;injection e1 with e1
 omega
theorem pRunE(s:ByteArray)(w:World)(hs:s.size≤maxLen)(bx:Nat)(hB:Blk w bx 57 #[.i 0,.i 0,.i 0,.string ⟨#[]⟩,.i 0,.sn])(hR:RX w)(hX:FX w):
 Calls Tryz.prog 23 #[.string s,.func (.func 71) #[] #[.p bx]] w (RunP (GotE (exprR s.data.toList).2 bx) bx (exprR s.data.toList).1 w):=by
 have c6:∀(fn:Fn) (first G:Array Value) (w:World),(Instr.makeFunc fn first G).run Tryz.prog w= .ok (.func fn first G) w:=fun _ _ _ _=>rfl
 have cn:=hI hB;have HR:=hI hR;have HX:=hI hX;obtain⟨D,a9⟩:=eX (exprR s.data.toList);have ap:=hI a9;rw[←a9];have cr:bx<w.heap.size:=Blk.lt hB;clear hB hR hX a9
 go_enter_defers Tryz.func23,Tryz.ntmps23
 go_upto_region 1 with(fail);generalize hw1:World.alloc _ _=w1;obtain⟨O1,A1,B1⟩:=gn2 hw1;clear hw1;have c7:w.heap.size+1<w1.heap.size:=B1.o.lt;have c8:s.size≤maxLen:=hs;go_wp2_with fail;refine(split_any s w1 hs).mono ?_;rintro e w2 ⟨V,W⟩;have O2:=hI (show Below w.heap.size w w2 from O1.o.trans (V.mono O1.o.size));have M:=hI (A1.o.belowW V);have B2:=hI (B1.o.belowW V);have c9:=V.size;have H:w.heap.size≠w.heap.size+1:=(by omega);have X:w.heap.size+1≠w.heap.size:=(by omega);have ar:bx≠w.heap.size:=(by omega);have au:bx≠w.heap.size+1:=(by omega);clear V
 cases hl:lexRes s.data.toList with
 | error p=>
  obtain⟨m,n,c⟩:=p;have ct:=(lexRes_err hl).1;have Y:¬c=0:=ct;rw[hl]at W;simp only at W;have j:=hI (show D=((m,n,c),none)by rw[ap.o];unfold exprR runR;rw[hl]);subst W;clear hl ap;have d1:(((c:Nat):Int)!=0)=true:=(by rw[bne_iff_ne];omega);obtain⟨d,N,i,O⟩:=M.o.all2;obtain⟨a,x⟩:=B2.o.all1;go_upto_region 2 with(fail);rw[pst2 M.o];have k:=hI (B2.o.far (t':=63) X #[.i (m:Nat),.i (n:Nat)]);rw[pst1 k.o];have Z:=hI ((M.o.put #[.i (m:Nat),.i (n:Nat)]).far (t':=34) H #[.i (c:Nat)]);have E:=hI (k.o.put #[.i (c:Nat)]);have bu:=hI (grown_new (grown_new (grown_of (some bx) O2.o) (Nat.le_refl _) 63 #[.i (m:Nat),.i (n:Nat)]) (Nat.le_succ _) 34 #[.i (c:Nat)]);obtain⟨y,I⟩:=eX (putB (putB w2 w.heap.size 63 #[.i (m:Nat),.i (n:Nat)]) (w.heap.size+1) 34 #[.i (c:Nat)]);rw[←I]at Z E bu ⊢;clear I k;clear d N i O a x;obtain⟨a,x⟩:=E.o.all1;go_upto_region 3 with(fail);clear a x;refine wp_norm ?_;have av:=hI (below_dr y);have P:=Z.o.b9 av;have bb:=E.o.b9 av;have bv:=hI (grown_tr bu.o (grown_of (some bx) av.o))
  refine wp_region_held_drew (S:=fun w'=>cz2 w' w.heap.size (.i (m:Nat)) (.i (n:Nat))∧w'.cell? ⟨w.heap.size+1,0,none⟩=some (.i (c:Nat))) (by kernel_rfl) ⟨P.o.cz2,bb.o.cell 0⟩ fun hHeld=>?_
  obtain⟨cu,F⟩:=eX (y.drew);rw[←F]at av P bb bv hHeld ⊢;clear F;refine tkW 0 ?_;refine tkW 1 ?_
  refine wr1 2 fun K hK=>?_
  have ps:=P.o.cell;have fs:=P.o.frozen;go_simp;rw[pst2 P.o];clear ps fs;obtain⟨aw,be⟩:=eX (#[.i (m:Nat),.i (n:Nat)]:Array Value);have Q:=hI (bb.o.far (t':=63) X aw);have bw:=hI (grown_new bv.o (Nat.le_refl _) 63 aw);have ax:=hI (P.o.put aw);obtain⟨cv,aa⟩:=eX (putB cu (w.heap.size) 63 aw);rw[←be];rw[←aa]at Q bw ax ⊢;clear aa hHeld;rw[be]at ax;clear be
  refine hK.out _ _ ⟨ax.o.cz2,Q.o.cell 0⟩ fun hHeld=>?_
  clear hK K
  try simp only[Lj,Lk,Lq]
  refine wr1 3 fun K hK=>?_
  have ps:=Q.o.cell;have fs:=Q.o.frozen;go_simp;rw[pst1 Q.o];clear ps fs;have bz:=hI (grown_new bw.o (Nat.le_succ _) 34 #[.i (c:Nat)]);have bf:=hI (ax.o.far (t':=34) H #[.i (c:Nat)]);have bg:=hI (Q.o.put #[.i (c:Nat)]);obtain⟨da,aa⟩:=eX (putB cv (w.heap.size+1) 34 #[.i (c:Nat)]);rw[←aa]at bz bf bg ⊢;clear aa hHeld
  refine hK.out _ _ ⟨bf.o.cz2,bg.o.cell 0⟩ fun hHeld=>?_
  clear hK K
  try simp only[Lj,Lk,Lq]
  refine wpAnyH_done (by kernel_rfl) ?_ _;obtain⟨d,_,i,_⟩:=bf.o.all2;obtain⟨a,_⟩:=bg.o.all1;go_wp2_with fail
  simp[bodyPostD,Leaves,results,Tryz.results23,go_sem,d,i,a]
  exact⟨by rw[j.o],bz,hI (fun h=>absurd h (by rw[j.o];exact Y))⟩
 | ok ts=>
  rw[hl]at W;obtain⟨v0,R,ho⟩:=W;obtain⟨hD,A,q,G,cw,cx,hT,b3⟩:=ts_of hl ho;have b4:=hI (show D=runR s.data.toList (fun ts=>sumP nameP ts (8*ts.length+8) 0 0) okE from ap.o);have b5:=hI hl;have cy:=hI hT;have bh:=hI b3;have cz:=hI hD;subst R;subst cw;clear hl ap ho hT b3 cx hD;have c0:=hI (show 0<q→∀b o,A=some ⟨b,o,none⟩→b≠w.heap.size from fun h b o e=>by have:=bh.o h b o e;omega);have c1:=hI (show 0<q→∀b o,A=some ⟨b,o,none⟩→b≠w.heap.size+1 from fun h b o e=>by have:=bh.o h b o e;omega);have c2:=hI (show 0<q→∀b o,A=some ⟨b,o,none⟩→b≠bx from fun h b o e=>by have:=bh.o h b o e;omega);obtain⟨d,N,i,O⟩:=M.o.all2;obtain⟨a,x⟩:=B2.o.all1;go_upto_region 2 with(fail);rw[pst2 M.o];have k:=hI (B2.o.far (t':=63) X #[.i 0,.i 0]);rw[pst1 k.o];have Z:=hI ((M.o.put #[.i 0,.i 0]).far (t':=34) H #[.i 0]);have E:=hI (k.o.put #[.i 0]);have b6:=hI (((cn.o.belowW O2.o).far (t':=63) ar #[.i 0,.i 0]).far (t':=34) au #[.i 0]);have O3:=hI ((O2.o.trans (putB_below w2 w.heap.size 63 #[.i 0,.i 0] (Nat.le_refl _))).trans (putB_below (putB w2 w.heap.size 63 #[.i 0,.i 0]) (w.heap.size+1) 34 #[.i 0] (Nat.le_succ _)));have b7:=hI ((cy.o.put c0.o 63 #[.i 0,.i 0]).put c1.o 34 #[.i 0]);obtain⟨y,I⟩:=eX (putB (putB w2 w.heap.size 63 #[.i 0,.i 0]) (w.heap.size+1) 34 #[.i 0]);rw[←I]at Z E b6 O3 b7 ⊢;clear I k;clear d N i O a x;obtain⟨a,x⟩:=E.o.all1;go_upto_region 6 with(fail)
  clear a x;obtain⟨w4,az⟩:=eX (y.alloc (Obj.cells #[.l A q G,.i 0,.i 0] 124));have bj:=hI (show Env y y.heap.size A q G ts 0 0 w4 by rw[az];exact Env.at0 b7.o);have bk:=hI (show Below y.heap.size y w4 by rw[az];exact below_box _ _);rw[←az];clear az;have A4:=Z.o.b9 bk;have B4:=E.o.b9 bk;have O4:=O3.o.t bk;have I:w.heap.size+1<y.heap.size:=E.o.lt;have HK:=hI (pExpr1 bj.o (HR.o.belowW O3.o) (HX.o.belowW O3.o) cz.o bx (Nat.lt_trans cr (by omega)) b6.o c2.o);obtain⟨g,hg⟩:=eX (y.heap.size);rw[←hg]at bj HK I ⊢;have cd:w.heap.size≠g:=(by omega);have ce:w.heap.size+1≠g:=(by omega);clear hg;have dc:g<w4.heap.size:=bj.o.gl;obtain⟨r,hr⟩:=eX (sumP nameP ts (8*ts.length+8) 0 0);have u:=hI (show D=runS ts okE r by rw[b4.o];unfold runR;rw[b5.o,hr]);rw[←hr]at HK;have c3:=hI hr;clear hr b4 b5
  cases r with
  | out=>
   go_wp2_with fail;refine HK.o.mono ?_;rintro e w5 R
   exact R.elim
  | bad m n c=>
   have j:=hI (show D=((m,n,c),none)from u.o);have Y:¬c=0:=errat_ne ((rule_bad (nm:=nameP) (ts:=ts) _).1 0 0 m n c c3.o.symm);clear u;go_wp2_with fail;refine HK.o.mono ?_;rintro e w5 ⟨rfl,J⟩;go_wp2_with fail;have GW:=hI (gr2_w O4.o (by omega) J.o);refine leaves_cons (f:=51) (args:=#[.p w.heap.size,.pointer (some ⟨w.heap.size+1,0,none⟩)]) (by simp) (by simp[go_sem]) ?_;refine(run1_panic w.heap.size (w.heap.size+1) 0 0 0 m n c [] w5 (Blk.gr2 A4.o J.o cd (Ne.symm ar)) (Blk.gr2 B4.o J.o ce (Ne.symm au)) H).mono ?_;rintro e u' w6 ⟨rfl,rfl,bl,bm,bn⟩;obtain⟨d,_,i,_⟩:=bl.o.all2;obtain⟨a,_⟩:=bm.o.all1
   simp[Leaves,settle,results,Tryz.results23,go_sem,d,i,a]
   exact⟨(by rw[j.o];try rfl),hI (gr2_new GW.o (Nat.le_refl _) (Nat.le_succ _) bn.o),hI (fun h=>absurd h (by rw[j.o];exact Y))⟩
  | ok T k1=>
   go_wp2_with fail;refine HK.o.mono ?_;rintro e w5 ⟨v,wb,rfl,a1,a2,ad,J⟩;have A5:=hI (Blk.gr2 A4.o J.o cd (Ne.symm ar));have B5:=hI (Blk.gr2 B4.o J.o ce (Ne.symm au));have a5:=hI (gr2_w O4.o (by omega) J.o);have cf:=hI ad.o.t.hl
   by_cases hlt:k1<q
   ·
    have bo:k1<ts.length:=(by rw[cf.o];exact hlt);have j:=hI (show D=(((tk ts k1).line,(tk ts k1).col,3),none)from u.o.trans (if_pos bo));have Y:¬(3:Nat)=0:=(by decide);have d1:decide ((k1:Int)<(q:Int))=true:=dT;have d2:decide (k1<q)=true:=decide_eq_true hlt;have cg:panU ts k1=pan (tk ts k1).line (tk ts k1).col 3:=(by unfold panU;rw[if_neg (by omega)]);have ch:=hI cg;obtain⟨m,ci⟩:=eX ((tk ts k1).line);obtain⟨n,cj⟩:=eX ((tk ts k1).col);rw[←ci,←cj]at j ch;clear u cg ci cj;go_upto_region 7 with(fail);refine wp_norm ?_;have l:=hI (below_dr w5);have ae:=A5.o.b9 l;have af:=B5.o.b9 l;have ag:=a1.o.b9 l;have ah:=a2.o.b9 l;have z:=ad.o.b9 l;have ai:=hI (grown_tr a5.o (grown_of (some bx) l.o))
    refine wp_region_held_drew (S:=fun w'=>w'.cell? ⟨g,0,none⟩=some (.l A q G)∧w'.cell? ⟨g,1,none⟩=some (.i (k1:Nat))) (by kernel_rfl) ⟨Blk.cell z.o.p 0,Blk.cell z.o.p 1⟩ fun hHeld=>?_
    obtain⟨bp,F⟩:=eX (w5.drew);rw[←F]at l ae af ag ah z ai hHeld ⊢;clear F;refine tkW 0 ?_;refine tkW 1 ?_;refine tkW 2 ?_;refine tkW 3 ?_;refine tkW 4 ?_;refine tkW 5 ?_;refine tkW 6 ?_;refine tkW 7 ?_;refine tkW 8 ?_;refine tkW 9 ?_;refine wpAnyH_done (by kernel_rfl) ?_ _;go_wp2_with fail;have B:=ae;have L:=af;have a6:=ag;have a7:=ah;have a8:=z;have U:=ai;clear A5 B5 a1 a2 ad a5;obtain⟨w6,aj⟩:=eX (bp);rw[←aj]at B L a6 a7 a8 U ⊢;clear aj;refine a8.o.unx.mono ?_;rintro e w7 ⟨R,bq⟩;rw[ch.o]at R;subst R;go_wp2_with fail;refine leaves_cons (f:=51) (args:=#[.p w.heap.size,.pointer (some ⟨w.heap.size+1,0,none⟩)]) (by simp) (by simp[go_sem]) ?_;refine(run1_panic w.heap.size (w.heap.size+1) 0 0 0 m n 3 [] w7 (B.o.belowW bq.o) (L.o.belowW bq.o) H).mono ?_;rintro e u' w6 ⟨rfl,rfl,bl,bm,bn⟩;obtain⟨d,_,i,_⟩:=bl.o.all2;obtain⟨a,_⟩:=bm.o.all1
    simp[Leaves,settle,results,Tryz.results23,go_sem,d,i,a]
    exact⟨(by rw[j.o];try rfl),hI (gr2_new (grown_tr U.o (grown_of (some bx) bq.o)) (Nat.le_refl _) (Nat.le_succ _) bn.o),hI (fun h=>absurd h (by rw[j.o];exact Y))⟩
   have bo:¬k1<ts.length:=(by rw[cf.o];exact hlt);have u:=hI (show D=(if okE T then((0,0,0),some T)else((0,0,5),some T))from u.o.trans (if_neg bo));have d1:decide ((k1:Int)<(q:Int))=false:=dF;have d2:decide (k1<q)=false:=decide_eq_false hlt;obtain⟨b,hb⟩:=eX (okE T);rw[←hb]at u ⊢;clear hb;go_upto_region 7 with(fail);refine wp_norm ?_;have l:=hI (below_dr w5);have ae:=A5.o.b9 l;have af:=B5.o.b9 l;have ag:=a1.o.b9 l;have ah:=a2.o.b9 l;have z:=ad.o.b9 l;have ai:=hI (grown_tr a5.o (grown_of (some bx) l.o))
   refine wp_region_held_drew (S:=fun w'=>w'.cell? ⟨g,0,none⟩=some (.l A q G)∧w'.cell? ⟨g,1,none⟩=some (.i (k1:Nat))) (by kernel_rfl) ⟨Blk.cell z.o.p 0,Blk.cell z.o.p 1⟩ fun hHeld=>?_
   obtain⟨bp,F⟩:=eX (w5.drew);rw[←F]at l ae af ag ah z ai hHeld ⊢;clear F;refine tkW 0 ?_;refine tkW 1 ?_;refine tkW 2 ?_;refine tkW 3 ?_;refine tkW 4 ?_;refine tkW 5 ?_;refine tkW 6 ?_;refine tkW 7 ?_;refine tkW 8 ?_;refine tkW 9 ?_;refine wpAnyH_done (by kernel_rfl) ?_ _;go_upto_region 9 with(fail);have B:=ae;have L:=af;have a6:=ag;have a7:=ah;have a8:=z;have U:=ai;clear A5 B5 a1 a2 ad a5;obtain⟨w6,aj⟩:=eX (bp);rw[←aj]at B L a6 a7 a8 U ⊢;clear aj;obtain⟨d,N,i,O⟩:=B.o.all2;obtain⟨a,x⟩:=L.o.all1
   cases b with
   | false=>
    have j:=hI (show D=((0,0,5),some T)from u.o);clear u;go_wp2;rw[pst2 B.o];have k:=hI (L.o.far (t':=63) X #[.i 0,.i 0]);rw[pst1 k.o];have A7:=hI ((B.o.put #[.i 0,.i 0]).far (t':=34) H #[.i 5]);have B7:=hI (k.o.put #[.i 5]);have an:=hI (grown_new (grown_new U.o (Nat.le_refl _) 63 #[.i 0,.i 0]) (Nat.le_succ _) 34 #[.i 5]);obtain⟨w7,ao⟩:=eX (putB (putB w6 w.heap.size 63 #[.i 0,.i 0]) (w.heap.size+1) 34 #[.i 5]);rw[←ao]at A7 B7 an ⊢;clear ao k;clear d N i O a x;refine leaves_cons (f:=51) (args:=#[.p w.heap.size,.pointer (some ⟨w.heap.size+1,0,none⟩)]) (by simp) (by simp[go_sem]) ?_;refine(run1_idle ⟨w.heap.size,0,none⟩ ⟨w.heap.size+1,0,none⟩ w7).mono ?_;rintro e u' w8 ⟨rfl,rfl,rfl⟩;obtain⟨d,_,i,_⟩:=A7.o.all2;obtain⟨a,_⟩:=B7.o.all1
    simp[Leaves,settle,results,Tryz.results23,go_sem,d,i,a]
    exact⟨(by rw[j.o];try rfl),an,hI (fun h=>absurd h (by rw[j.o];simp))⟩
   | true=>
    have j:=hI (show D=((0,0,0),some T)from u.o);clear u;go_wp2;rw[pst2 B.o];have k:=hI (L.o.far (t':=63) X #[.i 0,.i 0]);rw[pst1 k.o];have A7:=hI ((B.o.put #[.i 0,.i 0]).far (t':=34) H #[.i 0]);have B7:=hI (k.o.put #[.i 0]);have cl:=hI ((a6.o.far (t':=63) ar #[.i 0,.i 0]).far (t':=34) au #[.i 0]);have an:=hI (grown_new (grown_new U.o (Nat.le_refl _) 63 #[.i 0,.i 0]) (Nat.le_succ _) 34 #[.i 0]);have cm:=hI (((a7.o.far (r:=w.heap.size) (by omega) 63 #[.i 0,.i 0]).far (r:=w.heap.size+1) (by omega) 34 #[.i 0]).weaken (C:=w.heap.size) (by omega));obtain⟨w7,ao⟩:=eX (putB (putB w6 w.heap.size 63 #[.i 0,.i 0]) (w.heap.size+1) 34 #[.i 0]);rw[←ao]at A7 B7 cl an cm ⊢;clear ao k;clear d N i O a x;refine leaves_cons (f:=51) (args:=#[.p w.heap.size,.pointer (some ⟨w.heap.size+1,0,none⟩)]) (by simp) (by simp[go_sem]) ?_;refine(run1_idle ⟨w.heap.size,0,none⟩ ⟨w.heap.size+1,0,none⟩ w7).mono ?_;rintro e u' w8 ⟨rfl,rfl,rfl⟩;obtain⟨d,_,i,_⟩:=A7.o.all2;obtain⟨a,_⟩:=B7.o.all1
    simp[Leaves,settle,results,Tryz.results23,go_sem,d,i,a]
    exact⟨(by rw[j.o];try rfl),an,hI (fun h=>⟨T,v,by rw[j.o],cl,cm⟩)⟩
def zNd:Nd:=⟨⟨0,0,0,⟨#[]⟩,0⟩,none,0,0⟩
def EOut(r:(Nat×Nat×Nat)×Option TE)(v:Nd)(w w':World):Prop:=(r.1.2.2≠0→v=zNd)∧(r.1.2.2=0→∃T,r.2=some T∧InX w.heap.size w' T v)
def ExprP(l:List UInt8)(w:World)(e:Ending)(w':World):Prop:=
  ∃v:Nd,e= .returned (.tuple #[v.val,.agg #[.i (exprR l).1.1,.i (exprR l).1.2.1],.i (exprR l).1.2.2])∧Hid (Below w.heap.size w w')∧EOut (exprR l) v w w'
theorem below_grown{w w1 w2:World}{r:Nat}(h1:Below w.heap.size w w1)(hr:w.heap.size≤r)(h2:w1.grownBy w2 (some r)):Below w.heap.size w w2:=
 ⟨h2.os.trans h1.os,h2.tape.trans h1.tape,h2.output.trans h1.output,Nat.le_trans h1.size h2.size,fun k hk=>(h2.block k (Nat.lt_of_lt_of_le hk h1.size) (fun e=>by injection e with e;omega)).trans (h1.block k hk)⟩
theorem pExpr(s:ByteArray)(w:World)(hs:s.size≤maxLen)(hR:RX w)(hX:FX w):Calls Tryz.prog 43 #[.string s] w (ExprP s.data.toList w):=by
 have bc:∀(fn:Fn) (first cap:Array Value) (w:World),(Instr.makeFunc fn first cap).run Tryz.prog w= .ok (.func fn first cap) w:=fun _ _ _ _=>rfl
 have HR:=hI hR;have HX:=hI hX;have W:=hI (fun(w':World) (hB:Blk w' (w.heap.size+2) 57 #[.i 0,.i 0,.i 0,.string ⟨#[]⟩,.i 0,.sn]) (hR':RX w') (hX':FX w')=>pRunE s w' hs (w.heap.size+2) hB hR' hX');unfold ExprP;obtain⟨RR,ag⟩:=eX (exprR s.data.toList);rw[←ag]at W ⊢;clear hR hX ag;obtain⟨⟨B,C,X⟩,o⟩:=RR;simp only at W ⊢
 go_in
 go_upto_region 2 with(fail);obtain⟨D,E⟩:=eX (((w.alloc (Obj.cells #[.i 0,.i 0,.i 0,.string ⟨#[]⟩,.i 0,.sn] 57)).alloc (Obj.cells #[.i 0,.i 0] 63)).alloc (Obj.cells #[.i 0,.i 0,.i 0,.string ⟨#[]⟩,.i 0,.sn] 57));have Y:=hI (show Below w.heap.size w D by rw[E];exact((below_box _ _).trans ((below_box _ _).mono (by simp))).trans ((below_box _ _).mono (by simp;omega)));have A1:=hI (show Blk D w.heap.size 57 #[.i 0,.i 0,.i 0,.string ⟨#[]⟩,.i 0,.sn]by rw[E];exact((Blk.new w 57 #[.i 0,.i 0,.i 0,.string ⟨#[]⟩,.i 0,.sn]).belowW (below_box _ _)).belowW (below_box _ _));have B1:=hI (show Blk D (w.heap.size+1) 63 #[.i 0,.i 0]by rw[E];exact Blk.belowW (by have:=Blk.new (w.alloc (Obj.cells #[.i 0,.i 0,.i 0,.string ⟨#[]⟩,.i 0,.sn] 57)) 63 #[.i 0,.i 0];simpa using this) (below_box _ _));have X1:=hI (show Blk D (w.heap.size+2) 57 #[.i 0,.i 0,.i 0,.string ⟨#[]⟩,.i 0,.sn]by rw[E];exact(by have:=Blk.new ((w.alloc (Obj.cells #[.i 0,.i 0,.i 0,.string ⟨#[]⟩,.i 0,.sn] 57)).alloc (Obj.cells #[.i 0,.i 0] 63)) 57 #[.i 0,.i 0,.i 0,.string ⟨#[]⟩,.i 0,.sn];simpa using this));rw[←E];clear E;have bd:w.heap.size+2<D.heap.size:=X1.o.lt;go_wp2_with fail;refine(W.o D X1.o (HR.o.belowW Y.o) (HX.o.belowW Y.o)).mono ?_;rintro e w2 ⟨rfl,V,a2⟩;have O2:=hI (below_grown Y.o (by omega) V.o);have A2:=hI (A1.o.grown V.o (by simp));have B2:=hI (B1.o.grown V.o (by simp));have be:=V.o.size;go_upto_region 3 with(fail);generalize hw4:World.alloc _ _=w4;obtain⟨F,Z⟩:=gn1 hw4;clear hw4;have O4:=O2.o.t F;have A4:=A2.o.b9 F;have B4:=B2.o.b9 F;obtain⟨G,al⟩:=eX (w2.heap.size);have bf:w.heap.size+2<G:=(by omega);rw[←al]at Z ⊢;clear al;have am:w.heap.size+1≠w.heap.size:=(by omega);have an:w.heap.size≠w.heap.size+1:=(by omega);have ao:G≠w.heap.size:=(by omega);have ap:G≠w.heap.size+1:=(by omega);have a6:w.heap.size+2≠w.heap.size:=(by omega);have a7:w.heap.size+2≠w.heap.size+1:=(by omega)
 by_cases her:X=0
 ·
  obtain⟨T,v,hT,a8,a9⟩:=a2.o her;subst her;have HT:=hI hT;clear hT;go_upto_region 5 with(fail);have a:=hI (below_dr w4);have b:=A4.o.b9 a;have H:=B4.o.b9 a;have i:=Z.o.b9 a;have I:=O4.o.t a;have aa:=hI ((a8.o.belowW F.o).belowW a.o);have ar:=hI ((a9.o.belowW F.o).belowW a.o)
  refine wp_region_held_drew (S:=fun w'=>cz2 w' G (.i (B:Nat)) (.i (C:Nat))∧cz6 w' (w.heap.size+2) (.i v.h.kind) (.i v.h.n) (.i v.h.d) (.string v.h.name) (.i v.h.k) (.l v.A v.len v.cap)) (by kernel_rfl) ⟨i.o.cz2,aa.o.cz6⟩ fun hHeld=>?_
  obtain⟨J,L⟩:=eX (w4.drew);rw[←L]at a b H i I aa ar hHeld ⊢;clear L;refine tkW 0 ?_;refine tkW 1 ?_;refine tkW 2 ?_
  refine wr1 3 fun K hK=>?_
  have j:=b.o.cell;have l:=b.o.frozen;go_simp;rw[pst6 b.o];clear j l;obtain⟨m,ab⟩:=eX (#[.i v.h.kind,.i v.h.n,.i v.h.d,.string v.h.name,.i v.h.k,.l v.A v.len v.cap]:Array Value);have c:=hI (H.o.far (t':=57) am m);have p:=hI (i.o.far (t':=57) ao m);have M:=hI (I.o.trans (putB_below J w.heap.size 57 m (Nat.le_refl _)));have ac:=hI (aa.o.far (t':=57) a6 m);have au:=hI (ar.o.far (r:=w.heap.size) (by omega) 57 m);have q:=hI (b.o.put m);obtain⟨N,g⟩:=eX (putB J (w.heap.size) 57 m);rw[←ab];rw[←g]at c p M ac au q ⊢;clear g hHeld;rw[ab]at q;clear ab
  refine hK.out _ _ ⟨p.o.cz2,ac.o.cz6⟩ fun hHeld=>?_
  clear hK K
  try simp only[Lj,Lk,Lq]
  refine wr1 4 fun K hK=>?_
  have j:=c.o.cell;have l:=c.o.frozen;go_simp;rw[pst2 c.o];clear j l;obtain⟨u,ad⟩:=eX (#[.i (B:Nat),.i (C:Nat)]:Array Value);have O:=hI (p.o.far (t':=63) ap u);have P:=hI (M.o.trans (putB_below N (w.heap.size+1) 63 u (Nat.le_succ _)));have av:=hI (ac.o.far (t':=63) a7 u);have aw:=hI (au.o.far (r:=w.heap.size+1) (by omega) 63 u);have Q:=hI (q.o.far (t':=63) an u);have x:=hI (c.o.put u);obtain⟨bb,g⟩:=eX (putB N (w.heap.size+1) 63 u);rw[←ad];rw[←g]at O P av aw Q x ⊢;clear g hHeld;rw[ad]at x;clear ad
  refine hK.out _ _ ⟨O.o.cz2,av.o.cz6⟩ fun hHeld=>?_
  clear hK K
  try simp only[Lj,Lk,Lq]
  refine tkW 5 ?_;refine wpAnyH_done (by kernel_rfl) ?_ _;have z:=Q.o.cell;have y:=x.o.cell;go_wp2;refine bodyPost_ret (v:= .tuple #[.agg #[.i v.h.kind,.i v.h.n,.i v.h.d,.string v.h.name,.i v.h.k,.l v.A v.len v.cap],.agg #[.i (B:Nat),.i (C:Nat)],.i 0]) (by simp[results,Tryz.results43,go_sem,z,y]) rfl ?_;exact⟨v,rfl,P,⟨fun h=>absurd rfl h,fun _=>⟨T,HT.o,aw.o.weaken (by omega)⟩⟩⟩
 have d1:(((X:Nat):Int)!=0)=true:=(by rw[bne_iff_ne];omega);go_upto_region 4 with(fail);have a:=hI (below_dr w4);have b:=A4.o.b9 a;have H:=B4.o.b9 a;have i:=Z.o.b9 a;have I:=O4.o.t a
 refine wp_region_held_drew (S:=fun w'=>cz2 w' G (.i (B:Nat)) (.i (C:Nat))) (by kernel_rfl) i.o.cz2 fun hHeld=>?_
 obtain⟨J,L⟩:=eX (w4.drew);rw[←L]at a b H i I hHeld ⊢;clear L;refine tkW 0 ?_;refine tkW 1 ?_;refine tkW 2 ?_
 refine wr1 3 fun K hK=>?_
 have j:=b.o.cell;have l:=b.o.frozen;go_simp;rw[pst6 b.o];clear j l;obtain⟨R,ae⟩:=eX (#[.i 0,.i 0,.i 0,.string ⟨#[]⟩,.i 0,.sn]:Array Value);have c:=hI (H.o.far (t':=57) am R);have p:=hI (i.o.far (t':=57) ao R);have M:=hI (I.o.trans (putB_below J w.heap.size 57 R (Nat.le_refl _)));have q:=hI (b.o.put R);obtain⟨N,g⟩:=eX (putB J (w.heap.size) 57 R);rw[←ae];rw[←g]at c p M q ⊢;clear g hHeld;rw[ae]at q;clear ae
 refine hK.out _ _ p.o.cz2 fun hHeld=>?_
 clear hK K
 try simp only[Lj,Lk,Lq]
 refine wr1 4 fun K hK=>?_
 have j:=c.o.cell;have l:=c.o.frozen;go_simp;rw[pst2 c.o];clear j l;obtain⟨U,af⟩:=eX (#[.i (B:Nat),.i (C:Nat)]:Array Value);have O:=hI (p.o.far (t':=63) ap U);have P:=hI (M.o.trans (putB_below N (w.heap.size+1) 63 U (Nat.le_succ _)));have Q:=hI (q.o.far (t':=63) an U);have x:=hI (c.o.put U);obtain⟨bb,g⟩:=eX (putB N (w.heap.size+1) 63 U);rw[←af];rw[←g]at O P Q x ⊢;clear g hHeld;rw[af]at x;clear af
 refine hK.out _ _ O.o.cz2 fun hHeld=>?_
 clear hK K
 try simp only[Lj,Lk,Lq]
 refine tkW 5 ?_;refine wpAnyH_done (by kernel_rfl) ?_ _;have z:=Q.o.cell;have y:=x.o.cell;go_wp2;refine bodyPost_ret (v:= .tuple #[.agg #[.i 0,.i 0,.i 0,.string ⟨#[]⟩,.i 0,.sn],.agg #[.i (B:Nat),.i (C:Nat)],.i (X:Nat)]) (by simp[results,Tryz.results43,go_sem,z,y]) rfl ?_;exact⟨zNd,rfl,P,⟨fun _=>rfl,fun h=>absurd h her⟩⟩
