import Derived.Test.YtgcjmhjjpbcfmaaGreatDoorPaK
set_option linter.unusedVariables false
set_option maxHeartbeats 4000000
set_option maxRecDepth 100000
namespace Go.Proofs.YtgcjmhjjpbcfmaaGreatDoor
open Go.RowKit Go.Fl Go.Fl.Lx Go.Fl.Nm Go.Fl.Fm Go.Fl.Rt Go.Fl.Pa
def opS(l:List UInt8):Int:=if l=[43]then 3 else if l=[45]then 4 else 0
def opT(l:List UInt8):Int:=if l=[42]then 5 else if l=[47]then 6 else 0
theorem opS_le(l:List UInt8):0≤opS l∧opS l≤13:=by
 unfold opS
 split
 ·
  omega
 split<;>omega
theorem opT_le(l:List UInt8):0≤opT l∧opT l≤13:=by
 unfold opT
 split
 ·
  omega
 split<;>omega
def esS:Array MapEntry:=#[⟨.string ⟨#[43]⟩,.i 3,0⟩,⟨.string ⟨#[45]⟩,.i 4,1⟩]
def esT:Array MapEntry:=#[⟨.string ⟨#[42]⟩,.i 5,0⟩,⟨.string ⟨#[47]⟩,.i 6,1⟩]
theorem upd_str(w:World)(es:Array MapEntry)(clock:Nat)(s:ByteArray)(k:Int)(hf:Instr.findNow .string (.string s) es.toList 0=some none):
 Sem.run Tryz.prog (Instr.mapUpdate 184 (.map (some w.heap.size)) (.string s) (.i k)) (w.alloc (.map es clock))=
  .ok () (w.alloc (.map (es.push {key:= .string s,val:= .i k,born:=clock}) (clock+1))):=by
 have hm:=Tryz.underlying184;have hd:=Tryz.underlying9;have hb:(w.alloc (.map es clock)).heap[w.heap.size]? =some (.map es clock):=heap_alloc_new w _;have hk:MapKept.IsKey .string (.string s):=(by simp[MapKept.IsKey])
 simp[Instr.mapUpdate,run_underlying hm,MapKept.run_getObj_map hb,MapKept.run_checkKey hd hk,MapKept.run_findKey hd hf,MapKept.run_setObj_map _ hb,Result.andThen]
 have hh:(w.alloc (.map es clock)).heap.setIfInBounds w.heap.size (.map (es.push {key:= .string s,val:= .i k,born:=clock}) (clock+1))=(w.alloc (.map (es.push {key:= .string s,val:= .i k,born:=clock}) (clock+1))).heap:=by
  show(w.heap.push _).setIfInBounds w.heap.size _=w.heap.push _
  apply Array.ext_getElem?
  intro j;rw[Array.getElem?_setIfInBounds,Array.getElem?_push,Array.getElem?_push]
  by_cases hj:w.heap.size=j
  ·
   subst hj;simp
  rw[if_neg hj,if_neg (fun e=>hj e.symm),if_neg (fun e=>hj e.symm)]
 rw[hh]
 rfl
theorem look_some(w:World)(g:Nat)(es:Array MapEntry)(clock:Nat)(s:ByteArray)(i:Nat)(z:Int)(hb:w.heap[g]? =some (.map es clock))(hf:Instr.findNow .string (.string s) es.toList 0=some (some (i,.i z))):
 Sem.run Tryz.prog (Instr.lookup 184 (.map (some g)) (.string s) true) w= .ok (.tuple #[.i z,.b true]) w:=by
 have hm:=Tryz.underlying184;have hd:=Tryz.underlying9;have hk:MapKept.IsKey .string (.string s):=(by simp[MapKept.IsKey])
 simp[Instr.lookup,run_underlying hm,MapKept.run_getObj_map hb,MapKept.run_checkKey hd hk,MapKept.run_findKey hd hf,Result.andThen]
theorem look_none(w:World)(g:Nat)(es:Array MapEntry)(clock:Nat)(s:ByteArray)(hb:w.heap[g]? =some (.map es clock))(hf:Instr.findNow .string (.string s) es.toList 0=some none):
 Sem.run Tryz.prog (Instr.lookup 184 (.map (some g)) (.string s) true) w= .ok (.tuple #[.i 0,.b false]) w:=by
 have hm:=Tryz.underlying184;have hd:=Tryz.underlying9;have hk:MapKept.IsKey .string (.string s):=(by simp[MapKept.IsKey]);have hz:(zeroValue 3).run Tryz.prog w= .ok (.i 0) w:=(by kernel_rfl)
 simp[Instr.lookup,run_underlying hm,MapKept.run_getObj_map hb,MapKept.run_checkKey hd hk,MapKept.run_findKey hd hf,Result.andThen,hz]
theorem find_two(l:List UInt8)(a b:ByteArray)(x y:Value):Instr.findNow .string (.string ⟨l.toArray⟩) [⟨.string a,x,0⟩,⟨.string b,y,1⟩] 0=some (if l=a.data.toList then some (0,x)else if l=b.data.toList then some (1,y)else none):=by
 simp only[Instr.findNow,Instr.sameNow,beq_txt]
 by_cases ha:l=a.data.toList
 ·
  rw[if_pos ha,show(l==a.data.toList)=true from beq_iff_eq.2 ha]
 rw[if_neg ha,show(l==a.data.toList)=false from beq_eq_false_iff_ne.2 ha]
 by_cases hb:l=b.data.toList
 ·
  rw[if_pos hb,show(l==b.data.toList)=true from beq_iff_eq.2 hb]
 rw[if_neg hb,show(l==b.data.toList)=false from beq_eq_false_iff_ne.2 hb]
theorem lookS(w:World)(bm:Nat)(l:List UInt8)(hb:w.heap[bm]? =some (.map esS 2)):
 (Instr.lookup 184 (.map (some bm)) (.string ⟨l.toArray⟩) true).run Tryz.prog w= .ok (.tuple #[.i (opS l),.b (opS l !=0)]) w:=by
 have hf:=find_two l ⟨#[43]⟩ ⟨#[45]⟩ (.i 3) (.i 4)
 by_cases h1:l=[43]
 ·
  rw[if_pos h1]at hf;rw[look_some w bm esS 2 _ _ _ hb hf];subst h1
  rfl
 rw[if_neg h1]at hf
 by_cases h2:l=[45]
 ·
  rw[if_pos h2]at hf;rw[look_some w bm esS 2 _ _ _ hb hf];subst h2
  rfl
 rw[if_neg h2]at hf;rw[look_none w bm esS 2 _ hb hf];unfold opS;rw[if_neg h1,if_neg h2]
 rfl
theorem chS_step(nm:List UInt8→Bool)(ts:List Tok)(m:Nat)(f:Nat)(e:TE)(k:Nat):chS nm ts (f+1) e k m=stepR ts opS (fun e k=>chS nm ts f e k m) e k (termP nm ts f (k+1) m):=by
 rw[chS.eq_def];unfold stepR opS;simp only
 by_cases h1:(tk ts k).text=[43]
 ·
  rw[h1]
  cases termP nm ts f (k+1) m<;>simp
 by_cases h2:(tk ts k).text=[45]
 ·
  rw[h2]
  cases termP nm ts f (k+1) m<;>simp
 simp[h1,h2]
theorem sumP_eq(nm:List UInt8→Bool)(ts:List Tok)(f k m:Nat):sumP nm ts (f+1) k m=chainR (fun e k=>chS nm ts f e k m) (termP nm ts f k m):=by
 rw[sumP.eq_def]
 rfl
theorem pSum{w0 w:World}{g:Nat}{A:Option Addr}{len cap:Nat}{ts:List Tok}{k m:Nat}(h:Env w0 g A len cap ts k m w)(hk:k≤100001)(hm:m≤100)(f:Nat)(hf:8*(ts.length-k)+8≤f+1)
 (K1:∀w',Env w0 g A len cap ts k m w'→Calls Tryz.prog 115 #[.p g] w' (ExR w0 g A len cap ts m (termP nameP ts f k m) w'))
 (K2:∀f' k',f'<f→8*(ts.length-k')+7≤f'→k'≤100001→∀w',Env w0 g A len cap ts k' m w'→Calls Tryz.prog 115 #[.p g] w' (ExR w0 g A len cap ts m (termP nameP ts f' k' m) w')):
 Calls Tryz.prog 72 #[.p g] w (ExR w0 g A len cap ts m (sumP nameP ts (f+1) k m) w):=by
 obtain⟨o,i⟩:=eX (sumP nameP ts (f+1) k m);have M:o≠ .out:=(by rw[i];exact(enough (nm:=nameP) (ts:=ts) (f+1)).1 k m (by omega));rw[←i]
 have u:=hI (fun(w':World) (h':Env w0 g A len cap ts k m w') (bm:Nat) (hb:w'.heap[bm]? =some (.map esS 2)) (hbg:bm≠g)=>
  pChain true h' hk bm esS opS opS_le (fun w' l hb=>lookS w' bm l hb) hb hbg (fun f e k=>chS nameP ts f e k m) (fun f k=>termP nameP ts f k m) (chS_step nameP ts m)
   (fun f k b k2 e=>(forward (nm:=nameP) (ts:=ts) f).2.2.1 k m b k2 e) (fun f k e=>(enough (nm:=nameP) (ts:=ts) f).2.2.1 k m (by omega)) f (termP nameP ts f k m) ((enough (nm:=nameP) (ts:=ts) f).2.2.1 k m (by omega))
   (fun T k1 e=>by have:=(forward (nm:=nameP) (ts:=ts) f).2.2.1 k m T k1 e;exact⟨this.2,by omega⟩) K1 K2)
 rw[←(show o=chainR (fun e k=>chS nameP ts f e k m) (termP nameP ts f k m)from i.trans (sumP_eq nameP ts f k m))]at u;clear K1 K2 i
 have U:∀(fn:Fn) (first cap:Array Value) (w:World),(Instr.makeFunc fn first cap).run Tryz.prog w= .ok (.func fn first cap) w:=fun _ _ _ _=>rfl
 have V:=@run_makeMap Tryz.prog
 have x:=fun w:World=>upd_str w #[] 0 ⟨#[43]⟩ 3 rfl
 have y:=fun w:World=>upd_str w #[⟨.string ⟨#[43]⟩,.i 3,0⟩] 1 ⟨#[45]⟩ 4 rfl
 simp only[List.push_toArray,List.nil_append,List.cons_append,Nat.zero_add,Nat.reduceAdd]at x y
 go_in
 go_upto_region 1 with(fail);generalize hw1:World.alloc _ _=w1;obtain⟨B,C⟩:=gn1 hw1;clear hw1;have D:=hI (show some w.heap.size≠some g from fun e=>by have:=h.gl;injection e with e;omega)
 have N:w.heap.size≠g:=fun e=>D.o (by rw[e])
 have O:w0.heap.size≤w.heap.size:=h.b.size;have W:g<w.heap.size:=h.gl;have E:=hI (h.belowW B.o);have X:w.heap.size<w1.heap.size:=C.o.lt;clear h;go_wp2_with fail;obtain⟨a,c⟩:=eX (w1.alloc (Obj.map esS 2));have p:=hI (show Below w1.heap.size w1 a by rw[c];exact below_box _ _);have P:=hI (show a.heap[w1.heap.size]? =some (.map esS 2)by rw[c];exact heap_alloc_new w1 _);unfold esS at c;rw[←c];clear c x y;have F:=E.o.b9 p;have G:=C.o.b9 p;have H:=hI (grown_tr (grown_of (some g) B.o) (grown_of (some g) p.o));have Q:w1.heap.size≠g:=Nat.ne_of_gt E.o.gl;have q:=hI (u.o a F.o w1.heap.size P.o Q);have I:=M;obtain⟨r,s⟩:=eX (o);have J:=hI s.symm;rw[←s]at q I;clear s;have Y:g<a.heap.size:=F.o.gl;have L:w.heap.size<a.heap.size:=G.o.lt
 cases r with
 | out=>exact(I rfl).elim
 | bad ln co er=>
  go_wp2_with fail;refine q.o.mono ?_;rintro e w7 ⟨rfl,j⟩;go_wp2_with fail;rw[J.o]
  exact⟨rfl,exr_bad (hI (grown_tr H.o j.o))⟩
 | ok T k1=>
  go_wp2_with fail;refine q.o.mono ?_;rintro e w7 ⟨v,rfl,R,j,S⟩;have t:=hI (G.o.grown j.o D.o);obtain⟨Z,h0,r1,h1,r2,h2,r3,h3,r4,h4,r5,h5⟩:=t.o.all6;go_wp2;rw[pst6 t.o];have z:=(t.o.put #[.i v.h.kind,.i v.h.n,.i v.h.d,.string v.h.name,.i v.h.k,.l v.A v.len v.cap]).cell;refine bodyPost_ret (v:= .agg #[.i v.h.kind,.i v.h.n,.i v.h.d,.string v.h.name,.i v.h.k,.l v.A v.len v.cap]) (by simp[results,Tryz.results72,go_sem,z]) rfl ?_;rw[J.o];exact⟨v,rfl,hI ((R.o.far L _ _).weaken (Nat.le_of_lt L)),hI (grown_new (hI (grown_tr H.o j.o)).o (Nat.le_refl _) _ _),hI (S.o.far N O _ _)⟩
theorem lookT(w:World)(bm:Nat)(l:List UInt8)(hb:w.heap[bm]? =some (.map esT 2)):
 (Instr.lookup 184 (.map (some bm)) (.string ⟨l.toArray⟩) true).run Tryz.prog w= .ok (.tuple #[.i (opT l),.b (opT l !=0)]) w:=by
 have hf:=find_two l ⟨#[42]⟩ ⟨#[47]⟩ (.i 5) (.i 6)
 by_cases h1:l=[42]
 ·
  rw[if_pos h1]at hf;rw[look_some w bm esT 2 _ _ _ hb hf];subst h1
  rfl
 rw[if_neg h1]at hf
 by_cases h2:l=[47]
 ·
  rw[if_pos h2]at hf;rw[look_some w bm esT 2 _ _ _ hb hf];subst h2
  rfl
 rw[if_neg h2]at hf;rw[look_none w bm esT 2 _ hb hf];unfold opT;rw[if_neg h1,if_neg h2]
 rfl
theorem chT_step(nm:List UInt8→Bool)(ts:List Tok)(m:Nat)(f:Nat)(e:TE)(k:Nat):chT nm ts (f+1) e k m=stepR ts opT (fun e k=>chT nm ts f e k m) e k (factorP nm ts f (k+1) m):=by
 rw[chT.eq_def];unfold stepR opT;simp only
 by_cases h1:(tk ts k).text=[42]
 ·
  rw[h1]
  cases factorP nm ts f (k+1) m<;>simp
 by_cases h2:(tk ts k).text=[47]
 ·
  rw[h2]
  cases factorP nm ts f (k+1) m<;>simp
 simp[h1,h2]
theorem termP_eq(nm:List UInt8→Bool)(ts:List Tok)(f k m:Nat):termP nm ts (f+1) k m=chainR (fun e k=>chT nm ts f e k m) (firstP nm ts f k m):=by
 rw[termP.eq_def]
 rfl
theorem pTerm{w0 w:World}{g:Nat}{A:Option Addr}{len cap:Nat}{ts:List Tok}{k m:Nat}(h:Env w0 g A len cap ts k m w)(hk:k≤100001)(hm:m≤100)(f:Nat)(hf:8*(ts.length-k)+7≤f+1)
 (K1:∀w',Env w0 g A len cap ts k m w'→Calls Tryz.prog 150 #[.p g] w' (ExR w0 g A len cap ts m (firstP nameP ts f k m) w'))
 (K2:∀f' k',f'<f→8*(ts.length-k')+7≤f'→k'≤100001→∀w',Env w0 g A len cap ts k' m w'→Calls Tryz.prog 151 #[.p g] w' (ExR w0 g A len cap ts m (factorP nameP ts f' k' m) w')):
 Calls Tryz.prog 115 #[.p g] w (ExR w0 g A len cap ts m (termP nameP ts (f+1) k m) w):=by
 obtain⟨o,i⟩:=eX (termP nameP ts (f+1) k m);have M:o≠ .out:=(by rw[i];exact(enough (nm:=nameP) (ts:=ts) (f+1)).2.2.1 k m (by omega));rw[←i]
 have u:=hI (fun(w':World) (h':Env w0 g A len cap ts k m w') (bm:Nat) (hb:w'.heap[bm]? =some (.map esT 2)) (hbg:bm≠g)=>
  pChain false h' hk bm esT opT opT_le (fun w' l hb=>lookT w' bm l hb) hb hbg (fun f e k=>chT nameP ts f e k m) (fun f k=>factorP nameP ts f k m) (chT_step nameP ts m)
   (fun f k b k2 e=>(forward (nm:=nameP) (ts:=ts) f).2.2.2.2.2.1 k m b k2 e) (fun f k e=>(enough (nm:=nameP) (ts:=ts) f).2.2.2.2.2.1 k m (by omega)) f (firstP nameP ts f k m) ((enough (nm:=nameP) (ts:=ts) f).2.2.2.2.1 k m (by omega))
   (fun T k1 e=>by have:=(forward (nm:=nameP) (ts:=ts) f).2.2.2.2.1 k m T k1 e;exact⟨this.2,by omega⟩) K1 K2)
 rw[←(show o=chainR (fun e k=>chT nameP ts f e k m) (firstP nameP ts f k m)from i.trans (termP_eq nameP ts f k m))]at u;clear K1 K2 i
 have U:∀(fn:Fn) (first cap:Array Value) (w:World),(Instr.makeFunc fn first cap).run Tryz.prog w= .ok (.func fn first cap) w:=fun _ _ _ _=>rfl
 have V:=@run_makeMap Tryz.prog
 have x:=fun w:World=>upd_str w #[] 0 ⟨#[42]⟩ 5 rfl
 have y:=fun w:World=>upd_str w #[⟨.string ⟨#[42]⟩,.i 5,0⟩] 1 ⟨#[47]⟩ 6 rfl
 simp only[List.push_toArray,List.nil_append,List.cons_append,Nat.zero_add,Nat.reduceAdd]at x y
 go_in
 go_upto_region 1 with(fail);generalize hw1:World.alloc _ _=w1;obtain⟨B,C⟩:=gn1 hw1;clear hw1;have D:=hI (show some w.heap.size≠some g from fun e=>by have:=h.gl;injection e with e;omega)
 have N:w.heap.size≠g:=fun e=>D.o (by rw[e])
 have O:w0.heap.size≤w.heap.size:=h.b.size;have W:g<w.heap.size:=h.gl;have E:=hI (h.belowW B.o);have X:w.heap.size<w1.heap.size:=C.o.lt;clear h;go_wp2_with fail;obtain⟨a,c⟩:=eX (w1.alloc (Obj.map esT 2));have p:=hI (show Below w1.heap.size w1 a by rw[c];exact below_box _ _);have P:=hI (show a.heap[w1.heap.size]? =some (.map esT 2)by rw[c];exact heap_alloc_new w1 _);unfold esT at c;rw[←c];clear c x y;have F:=E.o.b9 p;have G:=C.o.b9 p;have H:=hI (grown_tr (grown_of (some g) B.o) (grown_of (some g) p.o));have Q:w1.heap.size≠g:=Nat.ne_of_gt E.o.gl;have q:=hI (u.o a F.o w1.heap.size P.o Q);have I:=M;obtain⟨r,s⟩:=eX (o);have J:=hI s.symm;rw[←s]at q I;clear s;have Y:g<a.heap.size:=F.o.gl;have L:w.heap.size<a.heap.size:=G.o.lt
 cases r with
 | out=>exact(I rfl).elim
 | bad ln co er=>
  go_wp2_with fail;refine q.o.mono ?_;rintro e w7 ⟨rfl,j⟩;go_wp2_with fail;rw[J.o]
  exact⟨rfl,exr_bad (hI (grown_tr H.o j.o))⟩
 | ok T k1=>
  go_wp2_with fail;refine q.o.mono ?_;rintro e w7 ⟨v,rfl,R,j,S⟩;have t:=hI (G.o.grown j.o D.o);obtain⟨Z,h0,r1,h1,r2,h2,r3,h3,r4,h4,r5,h5⟩:=t.o.all6;go_wp2;rw[pst6 t.o];have z:=(t.o.put #[.i v.h.kind,.i v.h.n,.i v.h.d,.string v.h.name,.i v.h.k,.l v.A v.len v.cap]).cell;refine bodyPost_ret (v:= .agg #[.i v.h.kind,.i v.h.n,.i v.h.d,.string v.h.name,.i v.h.k,.l v.A v.len v.cap]) (by simp[results,Tryz.results115,go_sem,z]) rfl ?_;rw[J.o];exact⟨v,rfl,hI ((R.o.far L _ _).weaken (Nat.le_of_lt L)),hI (grown_new (hI (grown_tr H.o j.o)).o (Nat.le_refl _) _ _),hI (S.o.far N O _ _)⟩
structure Ruls (w0:World) (g:Nat) (A:Option Addr) (len cap:Nat) (ts:List Tok) (f:Nat):Prop where
  sum:∀k m w,k≤100001→m≤100→8*(ts.length-k)+8≤f→Env w0 g A len cap ts k m w→Calls Tryz.prog 72 #[.pointer (some ⟨g,0,none⟩)] w (ExR w0 g A len cap ts m (sumP nameP ts f k m) w)
  term:∀k m w,k≤100001→m≤100→8*(ts.length-k)+7≤f→Env w0 g A len cap ts k m w→Calls Tryz.prog 115 #[.pointer (some ⟨g,0,none⟩)] w (ExR w0 g A len cap ts m (termP nameP ts f k m) w)
  first:∀k m w,k≤100001→m≤100→8*(ts.length-k)+6≤f→Env w0 g A len cap ts k m w→Calls Tryz.prog 150 #[.pointer (some ⟨g,0,none⟩)] w (ExR w0 g A len cap ts m (firstP nameP ts f k m) w)
  factor:∀k m w,k≤100001→m≤100→8*(ts.length-k)+5≤f→Env w0 g A len cap ts k m w→Calls Tryz.prog 151 #[.pointer (some ⟨g,0,none⟩)] w (ExR w0 g A len cap ts m (factorP nameP ts f k m) w)
  atom:∀k m w,k≤100001→m≤100→8*(ts.length-k)+4≤f→Env w0 g A len cap ts k m w→Calls Tryz.prog 194 #[.pointer (some ⟨g,0,none⟩)] w (ExR w0 g A len cap ts m (atomP nameP ts f k m) w)
  enc:∀k m w,k≤100002→m≤100→8*(ts.length-k)+3≤f→Env w0 g A len cap ts k m w→Calls Tryz.prog 234 #[.pointer (some ⟨g,0,none⟩)] w (ExR w0 g A len cap ts m (encP nameP ts f k m) w)
theorem sign_lt{ts:List Tok}{k:Nat}(h:signP ts k=1):k<ts.length:=by
 unfold signP at h
 split at h
 ·
  rename_i h2
  exact isS_lt h2
 cases h
theorem ruls_all(w0:World)(g:Nat)(A:Option Addr)(len cap:Nat)(ts:List Tok)(hT:TsAt w0 A len cap ts)(hR:RX w0)(hX:FX w0)(hD:DigTs ts):∀f,Ruls w0 g A len cap ts f:=by
 have l:ts.length≤100000:=(by rw[hT.hl];exact hT.hs);intro f
 induction f using Nat.strongRecOn with
 | ind f ih=>
  cases f with
  | zero=>refine⟨?_,?_,?_,?_,?_,?_⟩<;>intros<;>omega
  | succ f=>
   have R:=ih f (Nat.lt_succ_self f);obtain⟨c,n,o,p,q,a,d,b⟩:=enough (nm:=nameP) (ts:=ts) f;obtain⟨i,r,s,t,u,v,j,x⟩:=forward (nm:=nameP) (ts:=ts) f;refine⟨?_,?_,?_,?_,?_,?_⟩
   ·
    intro k m w hk hm hf h;exact pSum h hk hm f hf (fun w' h'=>R.term k m w' hk hm (by omega) h') (fun f' k' hf' hb hk' w' h'=>(ih f' (by omega)).term k' m w' hk' hm hb h')
   ·
    intro k m w hk hm hf h;exact pTerm h hk hm f hf (fun w' h'=>R.first k m w' hk hm (by omega) h') (fun f' k' hf' hb hk' w' h'=>(ih f' (by omega)).factor k' m w' hk' hm (by omega) h')
   ·
    intro k m w hk hm hf h;rw[firstP_eq];exact pFirst h (by omega) hR _ (a k m (by omega)) (fun w' h'=>R.factor k m w' hk hm (by omega) h')
   ·
    intro k m w hk hm hf h;rw[factorP_eq];refine pFactor h (by omega) hm hR hD _ _ (fun hs=>?_) (d k m (by omega)) (fun T k1 e=>by have:=j k m T k1 e;omega) (fun hs hm' w' h'=>?_) (fun w' h'=>R.atom k m w' hk hm (by omega) h')
    ·
     have:=sign_lt hs;exact a (k+1) (m+1) (by omega)
    have:=sign_lt hs;exact R.factor (k+1) (m+1) w' (by omega) (by omega) (by omega) h'
   ·
    intro k m w hk hm hf h;rw[atomP_eq];exact pAtom h (by omega) hR hX _ _ (b k m (by omega)) (b (k+1) m (by omega)) (fun w' h'=>R.enc k m w' (by omega) hm (by omega) h') (fun w' h'=>R.enc (k+1) m w' (by omega) hm (by omega) h')
   intro k m w hk hm hf h;rw[encP_eq];refine pEnclosed h (by omega) hm _ (fun hs=>?_) (fun T k1 e=>by have:=i (k+1) (m+1) T k1 e;omega) (fun hs hm' w' h'=>?_)
   ·
    have:=isS_lt hs;exact c (k+1) (m+1) (by omega)
   have:=isS_lt hs;exact R.sum (k+1) (m+1) w' (by omega) (by omega) (by omega) h'
theorem sum_any(w0 w:World)(g:Nat)(A:Option Addr)(len cap:Nat)(ts:List Tok)(hR:RX w0)(hX:FX w0)(hD:DigTs ts)(h:Env w0 g A len cap ts 0 0 w)(f:Nat)(hf:8*ts.length+8≤f):
 Calls Tryz.prog 72 #[.p g] w (ExR w0 g A len cap ts 0 (sumP nameP ts f 0 0) w):=
 (ruls_all w0 g A len cap ts h.t hR hX hD f).sum 0 0 w (by omega) (by omega) (by omega) h
end Go.Proofs.YtgcjmhjjpbcfmaaGreatDoor
namespace Go.Fl.Lx
open Go.Fl
theorem kind1(l:List UInt8)(h:(kindOf l).1=1):kindOf l=(1,0)∧wordP l=true∧l.length≤20:=by
 rw[kindOf_ref]at h ⊢
 by_cases hw:wordP l=true
 ·
  rw[if_pos hw]at h ⊢
  by_cases h2:20<l.length
  ·
   rw[if_pos h2]at h;simp at h
  rw[if_neg h2];exact⟨rfl,hw,by omega⟩
 rw[if_neg hw]at h
 by_cases h0:numN l=0
 ·
  rw[if_pos h0]at h;simp at h
 rw[if_neg h0]at h
 by_cases h18:18<numN l
 ·
  rw[if_pos h18]at h;simp at h
 rw[if_neg h18]at h;simp at h
theorem kind2(l:List UInt8)(h:(kindOf l).1=2):kindOf l=(2,0)∧0<numN l:=by
 rw[kindOf_ref]at h ⊢
 by_cases hw:wordP l=true
 ·
  rw[if_pos hw]at h
  by_cases h2:20<l.length
  ·
   rw[if_pos h2]at h;simp at h
  rw[if_neg h2]at h;simp at h
 rw[if_neg hw]at h ⊢
 by_cases h0:numN l=0
 ·
  rw[if_pos h0]at h;simp at h
 rw[if_neg h0]at h ⊢
 by_cases h18:18<numN l
 ·
  rw[if_pos h18]at h;simp at h
 rw[if_neg h18];exact⟨rfl,by omega⟩
theorem kind_ok(l:List UInt8):(kindOf l).2=0↔(kindOf l).1=1∨(kindOf l).1=2:=by
 rw[kindOf_ref]
 by_cases hw:wordP l=true
 ·
  rw[if_pos hw]
  by_cases h2:20<l.length
  ·
   rw[if_pos h2];simp
  rw[if_neg h2];simp
 rw[if_neg hw]
 by_cases h0:numN l=0
 ·
  rw[if_pos h0];simp
 rw[if_neg h0]
 by_cases h18:18<numN l
 ·
  rw[if_pos h18];simp
 rw[if_neg h18];simp
theorem num_all(l:List UInt8)(h:0<numN l):l.all inNum=true:=by
 rw[List.all_eq_true];intro c hc
 cases hb:inNum c with
 | true=>rfl
 | false=>have:=numN_bad l c hc hb;omega
end Go.Fl.Lx
namespace Go.Fl.Lx
open Go.Fl.Rt (read1 digs cutB dval make MX)
def tokOk(t:Tok):Prop:=(t.kind=3∧∃c,t.text=[c]∧isSym c=true)∨((t.kind=1∨t.kind=2)∧(kindOf t.text).1=t.kind)
theorem pre_mem{t:Tok}{r:Res}{ts:List Tok}(h:pre [t] r= .ok ts):∃us,r= .ok us∧ts=t::us:=by
 cases r with
 | error e=>cases h
 | ok us=>exact⟨us,rfl,by injection h with h;exact h.symm⟩
theorem split_toks:∀(n:Nat) (l:List UInt8) (p:Nat×Nat) (ts:List Tok),l.length≤n→split l p= .ok ts→∀t∈ts,tokOk t:=by
 intro n
 induction n with
 | zero=>
  intro l p ts hn h;obtain rfl:l=[]:=List.eq_nil_of_length_eq_zero (by omega);rw[split_nil]at h;injection h with h;subst h;intro t ht
  cases ht
 | succ n ih=>
  intro l p ts hn h
  cases l with
  | nil=>
   rw[split_nil]at h;injection h with h;subst h;intro t ht
   cases ht
  | cons c r=>
   have a:r.length≤n:=by simp at hn;omega
   by_cases hb:isBlank c=true
   ·
    rw[split_blank c r p hb]at h;exact ih r _ ts a h
   by_cases hs:isSym c=true
   ·
    rw[split_sym c r p hs]at h;obtain⟨b,d,rfl⟩:=pre_mem h;intro t ht
    rcases List.mem_cons.1 ht with rfl | ht
    ·
     exact .inl ⟨rfl,c,rfl,hs⟩
    exact ih r _ b a d t ht
   by_cases hi:inRun c=true
   ·
    by_cases hk:(kindOf (c::r.takeWhile inRun)).2=0
    ·
     rw[split_run c r p hi hk]at h;obtain⟨b,d,rfl⟩:=pre_mem h;intro t ht
     rcases List.mem_cons.1 ht with rfl | ht
     ·
      exact .inr ⟨(kind_ok _).1 hk,rfl⟩
     exact ih _ _ b (Nat.le_trans (dropWhile_le r) a) d t ht
    rw[split_run_err c r p hi hk]at h
    cases h
   by_cases h35:c=35
   ·
    subst h35;rw[split_hash]at h
    exact ih _ _ ts (Nat.le_trans (dropWhile_le r) a) h
   rw[split_bad c r p (by simpa using hb) (by simpa using hs) (by simpa using hi) h35]at h
   cases h
theorem num_le(l:List UInt8)(h:(kindOf l).1=2):numN l≤18:=by
 unfold kindOf at h
 split at h
 ·
  cases h
 rename_i h1
 simp only[Bool.or_eq_true,decide_eq_true_eq,not_or]at h1
 omega
theorem num_len(l:List UInt8)(h:0<numN l):l.length≤numN l+1:=by
 unfold numN at h ⊢
 split at h
 ·
  rename_i hdw
  split at h
  ·
   rename_i hdg
   rw[if_pos hdg]
   omega
  omega
 rename_i x b hdw
 split at h
 ·
  rename_i hdg
  rw[if_pos hdg];have:=congrArg List.length (List.takeWhile_append_dropWhile (p:=fun c:UInt8=>c !=46) (l:=l));rw[hdw,List.length_append,List.length_cons]at this
  omega
 omega
theorem tok_len{t:Tok}(h:tokOk t):t.text.length≤20:=by
 rcases h with⟨_,c,hc,_⟩ | ⟨hk | hk,hkk⟩
 ·
  rw[hc];simp
 ·
  exact(kind1 _ (hkk.trans hk)).2.2
 have h1:=num_len _ (kind2 _ (hkk.trans hk)).2;have h2:=num_le _ (hkk.trans hk)
 omega
end Go.Fl.Lx
namespace Go.Fl.Lx
def shiftTok(d:Nat)(t:Tok):Tok:={t with line:=t.line+d}
def shift(d:Nat):Res→Res
  | .error (ln,co,er)=> .error (ln+d,co,er)
  | .ok ts=> .ok (ts.map (shiftTok d))
def andThen(r:Res)(s:Res):Res:=
  match r with
  | .error e=> .error e
  | .ok ts=>pre ts s
theorem adv_count(a:List UInt8)(p:Nat×Nat):(adv a p).1=p.1+a.count 10:=by
 induction a generalizing p with
 | nil=>rfl
 | cons c a ih=>
  have e:adv (c::a) p=adv a (step1 p c):=rfl;rw[e,ih,List.count_cons];unfold step1
  by_cases h:c=10
  ·
   subst h;simp;omega
  rw[if_neg (by simpa using h),if_neg (by simpa using h)];simp
end Go.Fl.Lx
namespace Go.Fl.Pa
open Go.Lib Go.Fl.Lx Go.Fl.Fm Go.Fl.Rt
section
variable {nm:List UInt8→Bool} {ts:List Tok}
end
theorem split_bd:∀(n:Nat) (l:List UInt8) (p:Nat×Nat) (ts:List Tok),l.length≤n→split l p= .ok ts→ts.length≤l.length∧∀t∈ts,p.1≤t.line∧t.line≤p.1+l.length∧t.col≤p.2+l.length:=by
 intro n
 induction n with
 | zero=>
  intro l p ts hn h;obtain rfl:l=[]:=List.eq_nil_of_length_eq_zero (by omega);rw[split_nil]at h;injection h with h;subst h
  exact⟨Nat.le_refl _,fun t ht=>by cases ht⟩
 | succ n ih=>
  intro l p ts hn h
  cases l with
  | nil=>
   rw[split_nil]at h;injection h with h;subst h
   exact⟨Nat.le_refl _,fun t ht=>by cases ht⟩
  | cons c r=>
   have i:r.length≤n:=(by simp at hn;omega);have k:=step1_bound p c;have m:p.1≤(step1 p c).1:=(by unfold step1;split<;>simp only<;>omega);rw[List.length_cons]
   by_cases hb:isBlank c=true
   ·
    rw[split_blank c r p hb]at h;obtain⟨b,a⟩:=ih r _ ts i h;exact⟨by omega,fun t ht=>by have:=a t ht;omega⟩
   by_cases hs:isSym c=true
   ·
    rw[split_sym c r p hs]at h;obtain⟨d,f,rfl⟩:=pre_mem h;obtain⟨b,a⟩:=ih r _ d i f;rw[List.length_cons];refine⟨by omega,fun t ht=>?_⟩
    rcases List.mem_cons.1 ht with rfl | ht
    ·
     exact⟨Nat.le_refl _,Nat.le_add_right _ _,Nat.le_add_right _ _⟩
    have:=a t ht;omega
   by_cases hi:inRun c=true
   ·
    by_cases hk:(kindOf (c::r.takeWhile inRun)).2=0
    ·
     rw[split_run c r p hi hk]at h;obtain⟨d,f,rfl⟩:=pre_mem h;have g:=adv_grow (c::r.takeWhile inRun) p;have hc:=adv_count (c::r.takeWhile inRun) p
     have j:r.length=(r.takeWhile inRun).length+(r.dropWhile inRun).length:=by
      rw[←List.length_append,List.takeWhile_append_dropWhile]
     rw[List.length_cons]at g;obtain⟨b,a⟩:=ih _ _ d (by omega) f;rw[List.length_cons];refine⟨by omega,fun t ht=>?_⟩
     rcases List.mem_cons.1 ht with rfl | ht
     ·
      exact⟨Nat.le_refl _,Nat.le_add_right _ _,Nat.le_add_right _ _⟩
     have:=a t ht;omega
    rw[split_run_err c r p hi hk]at h
    cases h
   by_cases h35:c=35
   ·
    subst h35;rw[split_hash]at h;have g:=adv_grow (35::r.takeWhile (· !=10)) p;have hc:=adv_count (35::r.takeWhile (· !=10)) p
    have j:r.length=(r.takeWhile (· !=10)).length+(r.dropWhile (· !=10)).length:=by
     rw[←List.length_append,List.takeWhile_append_dropWhile]
    rw[List.length_cons]at g;obtain⟨b,a⟩:=ih _ _ ts (by omega) h;exact⟨by omega,fun t ht=>by have:=a t ht;omega⟩
   rw[split_bad c r p (by simpa using hb) (by simpa using hs) (by simpa using hi) h35]at h
   cases h
theorem lex_facts{l:List UInt8}{ts:List Tok}(h:lexRes l= .ok ts):l.length≤65536∧ts.length≤65536∧∀t∈ts,tokOk t∧1≤t.line∧t.line≤65537∧t.col≤65537:=by
 unfold lexRes at h
 split at h
 ·
  cases h
 have h1:=split_bd l.length l (1,1) ts (Nat.le_refl _) h;have h2:=split_toks l.length l (1,1) ts (Nat.le_refl _) h;exact⟨by omega,by omega,fun t ht=>⟨h2 t ht,by have:=h1.2 t ht;simp only at this;omega⟩⟩
theorem lex_err:∀(n:Nat) (l:List UInt8) (p:Nat×Nat) (e:Nat×Nat×Nat),l.length≤n→split l p= .error e→e.2.2≠0∧e.2.2≤5∧e.1≤p.1+l.length∧e.2.1≤p.2+l.length:=by
 intro n
 induction n with
 | zero=>
  intro l p e hn h;obtain rfl:l=[]:=List.eq_nil_of_length_eq_zero (by omega);rw[split_nil]at h
  cases h
 | succ n ih=>
  intro l p e hn h
  cases l with
  | nil=>rw[split_nil]at h;cases h
  | cons c r=>
   have b:r.length≤n:=(by simp at hn;omega);have i:=step1_bound p c
   have d:∀{t:Tok} {r:Res} {e:Nat×Nat×Nat},pre [t] r= .error e→r= .error e:=fun {t r e} h=>by
    cases r with
    | error e=>exact h
    | ok us=>cases h
   rw[List.length_cons]
   by_cases hb:isBlank c=true
   ·
    rw[split_blank c r p hb]at h;have:=ih r _ e b h
    omega
   by_cases hs:isSym c=true
   ·
    rw[split_sym c r p hs]at h;have:=ih r _ e b (d h)
    omega
   by_cases hi:inRun c=true
   ·
    have a:=adv_grow (c::r.takeWhile inRun) p
    have f:r.length=(r.takeWhile inRun).length+(r.dropWhile inRun).length:=by
     rw[←List.length_append,List.takeWhile_append_dropWhile]
    rw[List.length_cons]at a
    by_cases hk:(kindOf (c::r.takeWhile inRun)).2=0
    ·
     rw[split_run c r p hi hk]at h;have:=ih _ _ e (by omega) (d h)
     omega
    rw[split_run_err c r p hi hk]at h;injection h with h;subst h
    have g:(kindOf (c::r.takeWhile inRun)).2≤5:=by
     unfold kindOf
     split
     ·
      exact Nat.le_refl _
     split
     ·
      exact Nat.zero_le _
     split<;>simp
    exact⟨hk,g,Nat.le_add_right _ _,Nat.le_add_right _ _⟩
   by_cases h35:c=35
   ·
    subst h35;rw[split_hash]at h;have a:=adv_grow (35::r.takeWhile (· !=10)) p
    have f:r.length=(r.takeWhile (· !=10)).length+(r.dropWhile (· !=10)).length:=by
     rw[←List.length_append,List.takeWhile_append_dropWhile]
    rw[List.length_cons]at a;have:=ih _ _ e (by omega) h
    omega
   rw[split_bad c r p (by simpa using hb) (by simpa using hs) (by simpa using hi) h35]at h;injection h with h;subst h;exact⟨by simp,by simp,Nat.le_add_right _ _,Nat.le_add_right _ _⟩
theorem lexRes_err{l:List UInt8}{ln co er:Nat}(h:lexRes l= .error (ln,co,er)):er≠0∧er≤5∧ln≤65537∧co≤65537:=by
 unfold lexRes at h
 split at h
 ·
  injection h with h;injection h with h1 h2;injection h2 with h2 h3
  omega
 have:=lex_err l.length l (1,1) _ (Nat.le_refl _) h;simp only at this
 omega
