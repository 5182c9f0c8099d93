import Derived.Test.YtgcjmhjjpbcfmaaGreatDoorQJ
open List renaming setIfInBounds_toArray → Lj,set_cons_zero → Lk,set_cons_succ → Lq,getElem_toArray → Ly,getElem_cons_zero → Lz,getElem_cons_succ → Lv
set_option maxHeartbeats 4000000
set_option maxRecDepth 100000
namespace Go.Proofs.YtgcjmhjjpbcfmaaGreatDoor
open Go.RowKit Go.Fl Go.Fl.Lx Go.Fl.Nm Go.Fl.Fm Go.Fl.Rt Go.Fl.Pa
def opOne(kd:Int)(r:PR TE):PR TE:=
  match r with
  | .ok e k1=> .ok (opE kd [e]) k1
  | r=>r
def atomR(nm:List UInt8→Bool)(ts:List Tok)(k:Nat)(r0 r1:PR TE):PR TE:=
  if(tk ts k).kind=2 then(numP ts k).map numE
  else if(tk ts k).kind=1∧nm (tk ts k).text=true then .ok (varE (tk ts k).text) (k+1)
  else if(tk ts k).kind=1∧funK (tk ts k).text≠0 then
    match r1 with
    | .ok e k1=> .ok (opE (funK (tk ts k).text) [e]) k1
    | r=>r
  else r0
theorem atomP_eq(nm:List UInt8→Bool)(ts:List Tok)(f k m:Nat):atomP nm ts (f+1) k m=atomR nm ts k (encP nm ts f k m) (encP nm ts f (k+1) m):=by
 rw[atomP.eq_def]
 rfl
theorem funK_small(l:List UInt8):0≤funK l∧funK l≤13:=by
 unfold funK
 split
 ·
  omega
 split
 ·
  omega
 split
 ·
  omega
 split
 ·
  omega
 split<;>omega
theorem hd_var{s:List UInt8}(h:s.length≤20):HdOk ⟨2,0,0,⟨s.toArray⟩,0⟩:=by
 refine⟨?_,?_,?_,?_,?_,?_,?_,?_,?_⟩<;>first | decide | (simp only;omega) | (show s.toArray.size≤maxLen;rw[List.size_toArray];exact Nat.le_trans h (by decide))
theorem hd_op{kd:Int}(h:0≤kd∧kd≤13):HdOk ⟨kd,0,0,⟨#[]⟩,0⟩:=by
 refine⟨?_,?_,?_,?_,?_,?_,?_,?_,Nat.zero_le _⟩<;>simp only<;>omega
theorem pAtom{w0 w:World}{g:Nat}{A:Option Addr}{len cap:Nat}{ts:List Tok}{k m:Nat}(h:Env w0 g A len cap ts k m w)(hk:k≤110000)(hR:RX w0)(hX:FX w0)(r0 r1:PR TE)(hr0:r0≠ .out)(hr1:r1≠ .out)
 (K0:∀w',Env w0 g A len cap ts k m w'→Calls Tryz.prog 234 #[.p g] w' (ExR w0 g A len cap ts m r0 w'))
 (K1:∀w',Env w0 g A len cap ts (k+1) m w'→Calls Tryz.prog 234 #[.p g] w' (ExR w0 g A len cap ts m r1 w')):
 Calls Tryz.prog 194 #[.p g] w (ExR w0 g A len cap ts m (atomR nameP ts k r0 r1) w):=by
 obtain⟨bm,es,ck,bz,b0⟩:=hX;have ak:=hI bz;have av:=hI b0;have al:=hI K0;have b3:=hI K1;obtain⟨q,aw⟩:=eX (atomR nameP ts k r0 r1);have j:=hI aw;rw[←aw];clear K0 K1 aw bz b0
 go_in
 go_upto_region 1 with(fail);generalize hw1:World.alloc _ _=w1;obtain⟨O1,F1⟩:=gn1 hw1;clear hw1;have R:=hI (show some w.heap.size≠some g from fun e=>by have:=h.gl;injection e with e;omega)
 have L:w.heap.size≠g:=fun e=>R.o (by rw[e])
 have U:w0.heap.size≤w.heap.size:=h.b.size;have cx:g<w.heap.size:=h.gl;have ax:=hI (h.belowW O1.o);have hr1:w.heap.size<w1.heap.size:=F1.o.lt;clear h;have b6:=hI cx;have KT:=hI (ax.o.tok 0 (by omega));rw[Nat.add_zero]at KT;have Y:(tk ts k).text.length≤100:=(ax.o.t.tk k).1;have az:((⟨(tk ts k).text.toArray⟩:ByteArray)).size≤maxLen:=Nat.le_trans (show(tk ts k).text.toArray.size≤100 by rw[List.size_toArray];exact Y) (by decide);have b7:=hI (show nameR ts k=if(tk ts k).kind=1∧nameP (tk ts k).text=true then .ok (tk ts k).text (k+1)else unex ts k from rfl);unfold atomR at j;obtain⟨T,b8⟩:=eX (tk ts k);rw[←b8]at KT j az Y b7
 obtain⟨b2,cy⟩:∃b,((T.kind:Int)==2)=b:=⟨_,rfl⟩
 obtain⟨b1,cz⟩:∃b,((T.kind:Int)==1)=b:=⟨_,rfl⟩
 obtain⟨bn,am⟩:∃b,nameP T.text=b:=⟨_,rfl⟩
 obtain⟨s,an⟩:∃z,funK T.text=z:=⟨_,rfl⟩
 have a0:=hI an;have c1:=hI (hd_op (by have:=funK_small T.text;rw[an]at this;exact this));have cc:(T.kind=2)↔b2=true:=(by rw[←cy,beq_iff_eq];omega);have cd:(T.kind=1)↔b1=true:=(by rw[←cz,beq_iff_eq];omega);rw[am,an]at j;have Z:=hI cc;have aa:=hI cd;have ce:=hI am;have u:=hI (fun w'=>name_any ⟨T.text.toArray⟩ w' az);have hl:(⟨T.text.toArray⟩:ByteArray).data.toList=T.text:=rfl;rw[hl,am]at u;clear b8 am cc cd hl az an;go_wp2_with fail;refine KT.o.mono ?_;rintro e w2 ⟨rfl,ao⟩;have dl:=ao.o.size;go_upto_region 2 with(fail);generalize hw3:World.alloc _ _=w3;obtain⟨a1,E3⟩:=gn1 hw3;clear hw3;have x:=hI ((ax.o.belowW ao.o).belowW a1.o);have M:=hI ((F1.o.belowW ao.o).belowW a1.o);have I:=hI (grown_tr (grown_of (some g) O1.o) (grown_tr (grown_of (some g) ao.o) (grown_of (some g) a1.o)));have X3:=hI (ak.o.belowW x.o.b);obtain⟨N,a2⟩:=eX (w2.heap.size);have dm:w.heap.size<N:=(by omega);have dn:N<w3.heap.size:=(by rw[a2];exact E3.o.lt);have c2:=hI (show some N≠some g from fun e=>by have:=b6.o;injection e with e;omega);rw[←a2]at E3 ⊢;clear a2;have q0:=E3.o.cell 0;have q1:=E3.o.cell 1;simp only[List.getElem?_toArray,List.getElem?_cons_zero,List.getElem?_cons_succ]at q0 q1
 cases b2 with
 | true=>
  have c:=hI (show q=(numP ts k).map numE by rw[j.o,if_pos (Z.o.2 rfl)]);clear j;have u:=hI (pNumber x.o (by omega) hR)
  cases hq:numP ts k with
  | out=>exact(numP_out hq).elim
  | bad ln co er=>
   have i:=hI (show q= .bad ln co er by rw[c.o,hq];rfl);rw[hq]at u;clear hq c;go_wp2_with fail;refine u.o.mono ?_;rintro e y ⟨rfl,o⟩;go_wp2_with fail;rw[i.o]
   exact⟨rfl,exr_bad (hI (grown_tr I.o o.o))⟩
  | ok a k1=>
   have i:=hI (show q= .ok (numE a) k1 by rw[c.o,hq];rfl);have a3:=hd_num (numP_small2 hq);rw[hq]at u;clear hq c;obtain⟨n,d⟩:=a;go_wp2_with fail;refine u.o.mono ?_;rintro e y ⟨rfl,o,J⟩;go_wp2_with fail;refine(pNum (n,d) y).mono ?_;rintro e w6 ⟨rfl,a4⟩;have F6:=hI ((M.o.grown o.o R.o).belowW a4.o);simp only[ndR,Nd.val];obtain⟨r0,h0,r1,h1,r2,h2,r3,h3,r4,h4,r5,h5⟩:=F6.o.all6;go_wp2;rw[pst6 F6.o];obtain⟨B,_,C,_,D,_,E,_,F,_,G,_⟩:=(F6.o.put #[.i 1,.i n,.i d,.string ⟨#[]⟩,.i 0,.sn]).all6;refine bodyPost_ret (v:= .agg #[.i 1,.i n,.i d,.string ⟨#[]⟩,.i 0,.sn]) (by simp[results,Tryz.results194,go_sem,B,C,D,E,F,G]) rfl ?_;rw[i.o]
   exact⟨ndR (n,d),rfl,hI (inx_leaf _ _ _ a3),hI (grown_new (grown_tr I.o (grown_tr o.o (grown_of (some g) a4.o))) (Nat.le_refl _) _ _),hI ((J.o.belowW a4.o).far L U _ _)⟩
 | false=>
  cases b1 with
  | false=>
   have c:=hI (show q=r0 by
    rw[j.o,if_neg (fun e=>by have:=Z.o.1 e;cases this),if_neg (fun e=>by have:=aa.o.1 e.1;cases this),if_neg (fun e=>by have:=aa.o.1 e.1;cases this)])
   clear j;obtain⟨r,ac⟩:=eX (r0);rw[←ac]at al c hr0;have i:=c;have hr:=hr0;clear ac hr0 c;have KC:=hI (al.o w3 x.o);have c5:g<w3.heap.size:=x.o.gl;have ae:w.heap.size<w3.heap.size:=M.o.lt
   cases r with
   | out=>exact(hr rfl).elim
   | bad ln co er=>
    go_wp2_with fail;refine KC.o.mono ?_;rintro e w7 ⟨rfl,H⟩;go_wp2_with fail;rw[i.o]
    exact⟨rfl,exr_bad (hI (grown_tr I.o H.o))⟩
   | ok T k1=>
    go_wp2_with fail;refine KC.o.mono ?_;rintro e w7 ⟨v,rfl,bi,H,bj⟩;have O:=hI (M.o.grown H.o R.o);obtain⟨r0,h0,r1,h1,r2,h2,r3,h3,r4,h4,r5,h5⟩:=O.o.all6;go_wp2;rw[pst6 O.o];obtain⟨B,_,C,_,D,_,E,_,F,_,G,_⟩:=(O.o.put #[.i v.h.kind,.i v.h.n,.i v.h.d,.string v.h.name,.i v.h.k,.l v.A v.len v.cap]).all6;refine bodyPost_ret (v:= .agg #[.i v.h.kind,.i v.h.n,.i v.h.d,.string v.h.name,.i v.h.k,.l v.A v.len v.cap]) (by simp[results,Tryz.results194,go_sem,B,C,D,E,F,G]) rfl ?_;rw[i.o]
    exact⟨v,rfl,hI ((bi.o.far ae _ _).weaken (Nat.le_of_lt ae)),hI (grown_new (hI (grown_tr I.o H.o)).o (Nat.le_refl _) _ _),hI (bj.o.far L U _ _)⟩
  | true=>
   cases bn with
   | true=>
    have i:=hI (show q= .ok (varE T.text) (k+1)by
     rw[j.o,if_neg (fun e=>by have:=Z.o.1 e;cases this),if_pos ⟨aa.o.2 rfl,rfl⟩])
    have c6:=hI (show nameR ts k= .ok T.text (k+1)by rw[b7.o,if_pos ⟨aa.o.2 rfl,ce.o⟩]);clear j;go_wp2_with fail;refine(u.o _).mono ?_;rintro e w4 ⟨rfl,rfl⟩;have KM:=hI (pName x.o hk);have a3:=hd_var (nameP_len ce.o);rw[c6.o]at KM;go_wp2_with fail;refine KM.o.mono ?_;rintro e y ⟨rfl,o,J⟩;have V:=hI (M.o.grown o.o R.o);obtain⟨r0,h0,r1,h1,r2,h2,r3,h3,r4,h4,r5,h5⟩:=V.o.all6;go_wp2;rw[pst6 V.o];obtain⟨B,_,C,_,D,_,E,_,F,_,G,_⟩:=(V.o.put #[.i 2,.i 0,.i 0,.string ⟨T.text.toArray⟩,.i 0,.sn]).all6;refine bodyPost_ret (v:= .agg #[.i 2,.i 0,.i 0,.string ⟨T.text.toArray⟩,.i 0,.sn]) (by simp[results,Tryz.results194,go_sem,B,C,D,E,F,G]) rfl ?_;rw[i.o]
    exact⟨⟨⟨2,0,0,⟨T.text.toArray⟩,0⟩,none,0,0⟩,rfl,hI (inx_leaf _ _ _ a3),hI (grown_new (grown_tr I.o o.o) (Nat.le_refl _) _ _),hI (J.o.far L U _ _)⟩
   | false=>
    have c7:=X3.o.cell;have ci:=av.o w3 T.text Y X3.o.heap;rw[a0.o]at ci
    obtain⟨bf,ap⟩:∃b,(s !=0)=b:=⟨_,rfl⟩
    cases bf with
    | false=>
     have c:=hI (show q=r0 by
      rw[j.o,if_neg (fun e=>by have:=Z.o.1 e;cases this),if_neg (fun e=>by cases e.2),if_neg (fun e=>by rw[bne_eq_false_iff_eq]at ap;exact e.2 ap)])
     clear j;go_wp2_with fail;refine(u.o _).mono ?_;rintro e w4 ⟨rfl,rfl⟩;obtain⟨r,ac⟩:=eX (r0);rw[←ac]at al c hr0;have i:=c;have hr:=hr0;clear ac hr0 c;have KC:=hI (al.o w3 x.o);have c5:g<w3.heap.size:=x.o.gl;have ae:w.heap.size<w3.heap.size:=M.o.lt
     cases r with
     | out=>exact(hr rfl).elim
     | bad ln co er=>
      go_wp2_with fail;refine KC.o.mono ?_;rintro e w7 ⟨rfl,H⟩;go_wp2_with fail;rw[i.o]
      exact⟨rfl,exr_bad (hI (grown_tr I.o H.o))⟩
     | ok T k1=>
      go_wp2_with fail;refine KC.o.mono ?_;rintro e w7 ⟨v,rfl,bi,H,bj⟩;have O:=hI (M.o.grown H.o R.o);obtain⟨r0,h0,r1,h1,r2,h2,r3,h3,r4,h4,r5,h5⟩:=O.o.all6;go_wp2;rw[pst6 O.o];obtain⟨B,_,C,_,D,_,E,_,F,_,G,_⟩:=(O.o.put #[.i v.h.kind,.i v.h.n,.i v.h.d,.string v.h.name,.i v.h.k,.l v.A v.len v.cap]).all6;refine bodyPost_ret (v:= .agg #[.i v.h.kind,.i v.h.n,.i v.h.d,.string v.h.name,.i v.h.k,.l v.A v.len v.cap]) (by simp[results,Tryz.results194,go_sem,B,C,D,E,F,G]) rfl ?_;rw[i.o]
      exact⟨v,rfl,hI ((bi.o.far ae _ _).weaken (Nat.le_of_lt ae)),hI (grown_new (hI (grown_tr I.o H.o)).o (Nat.le_refl _) _ _),hI (bj.o.far L U _ _)⟩
    | true=>
     have c:=hI (show q=opOne s r1 by
      rw[j.o,if_neg (fun e=>by have:=Z.o.1 e;cases this),if_neg (fun e=>by cases e.2),if_pos ⟨aa.o.2 rfl,fun e=>by rw[bne_iff_ne]at ap;exact ap e⟩];rfl)
     clear j;go_wp2_with fail;refine(u.o _).mono ?_;rintro e w4 ⟨rfl,rfl⟩;have e1:IntKind.i64.wrap ((k:Int)+1)=(k:Int)+1:=(by rw[IntKind.wrap_i64];omega)
     have c9:N≠g:=fun e=>by have:=b6.o;omega
     have da:w.heap.size≠N:=(by omega);have HP:=hI (show Blk w3 g 124 #[.l A len cap,.i (k:Nat),.i (m:Nat)]from x.o.p);obtain⟨p0,f0,p1,f1,p2,f2⟩:=HP.o.all3;go_upto_region 8 with(fail);rw[HP.o.setCell_eq];have J:=hI (x.o.put (k+1) m (by omega));have E5:=hI (E3.o.far (t':=124) c9 #[.l A len cap,.i ((k+1:Nat):Int),.i (m:Nat)]);have V:=hI (M.o.far (t':=124) L #[.l A len cap,.i ((k+1:Nat):Int),.i (m:Nat)]);have o:=hI (grown_tr I.o (putB_grown w3 g 124 #[.l A len cap,.i ((k+1:Nat):Int),.i (m:Nat)]));have X5:=hI (ak.o.belowW J.o.b);obtain⟨y,bp⟩:=eX (putB w3 g 124 #[.l A len cap,.i ((k+1:Nat):Int),.i (m:Nat)]);have cj:putB w3 g 124 ((#[.l A len cap,.i (k:Nat),.i (m:Nat)]:Array Value).setIfInBounds 1 (.i ((k:Int)+1)))=y:=(by rw[bp];rfl);rw[←bp]at J E5 V o X5;rw[cj];clear bp cj p0 f0 p1 f1 p2 f2 HP c7 ci
     cases r1 with
     | out=>exact(hr1 rfl).elim
     | bad ln co er=>
      have i:=hI (show q= .bad ln co er from c.o);clear c;have l:=hI (below_dr y);have W:=E5.o.b9 l;have af:=J.o.b9 l;have P:=X5.o.b9 l;have ag:=hI (grown_tr o.o (grown_of (some g) l.o))
      refine wp_region_held_drew (S:=fun w'=>w'.cell? ⟨2,0,none⟩=some (.map (some bm))∧w'.heap[bm]? =some (.map es ck)∧w'.cell? ⟨N,1,none⟩=some (.string ⟨T.text.toArray⟩)) (by kernel_rfl) ⟨P.o.cell,P.o.heap,W.o.cell 1⟩ fun hHeld=>?_
      obtain⟨aq,ah⟩:=eX (y.drew);rw[←ah]at l W af P ag hHeld ⊢;clear ah;refine tkW 0 ?_;refine tkW 1 ?_;refine tkW 2 ?_;refine tkY 3 rfl (v:=?_) (.inl ⟨by rfl,?_⟩) ?_
      case refine_2=>intro w9 hSw;(try dsimp only at hSw);have bq:=av.o w9 T.text Y (by simp only[hSw]);rw[a0.o]at bq;go_simp;(try with_reducible rfl)
      try simp only[Act.put,Lj,Lk,Lq,Ly,Lz,Lv]
      refine tkW 4 ?_
      refine wr1 5 fun K hK=>?_
      go_simp
      (with_reducible refine(b3.o aq af.o).mono ?_)
      rintro e w32 ⟨rfl,X⟩;clear hHeld;go_wp2_with fail;rw[i.o]
      exact⟨rfl,exr_bad (hI (grown_tr ag.o X.o))⟩
     | ok T1 k1=>
      have i:=hI (show q= .ok (opE s [T1]) k1 from c.o);clear c;have l:=hI (below_dr y);have ar:=V.o.b9 l;have W:=E5.o.b9 l;have af:=J.o.b9 l;have P:=X5.o.b9 l;have ag:=hI (grown_tr o.o (grown_of (some g) l.o))
      refine wp_region_held_drew (S:=fun w'=>w'.cell? ⟨2,0,none⟩=some (.map (some bm))∧w'.heap[bm]? =some (.map es ck)∧w'.cell? ⟨N,1,none⟩=some (.string ⟨T.text.toArray⟩)) (by kernel_rfl) ⟨P.o.cell,P.o.heap,W.o.cell 1⟩ fun hHeld=>?_
      obtain⟨aq,ah⟩:=eX (y.drew);rw[←ah]at l ar W af P ag hHeld ⊢;clear ah;refine tkW 0 ?_;refine tkW 1 ?_;refine tkW 2 ?_;refine tkY 3 rfl (v:=?_) (.inl ⟨by rfl,?_⟩) ?_
      case refine_2=>intro w9 hSw;(try dsimp only at hSw);have bq:=av.o w9 T.text Y (by simp only[hSw]);rw[a0.o]at bq;go_simp;(try with_reducible rfl)
      try simp only[Act.put,Lj,Lk,Lq,Ly,Lz,Lv]
      refine tkW 4 ?_
      refine wr1 5 fun K hK=>?_
      go_simp
      (with_reducible refine(b3.o aq af.o).mono ?_)
      rintro e w32 ⟨v,rfl,dh,X,cl⟩;have cm:=hI (W.o.grown X.o c2.o);have br:=hI (ak.o.belowW cl.o.b);go_wp2_with fail;clear hHeld
      refine hK.out _ _ ⟨br.o.cell,br.o.heap,cm.o.cell 1⟩ fun hHeld=>?_
      clear hK K
      try simp only[Lj,Lk,Lq]
      refine wr1 6 fun K hK=>?_
      go_simp;obtain⟨cn,hw,ai,_⟩:=aX w32 57 #[.i v.h.kind,.i v.h.n,.i v.h.d,.string v.h.name,.i v.h.k,.l v.A v.len v.cap];have au:=hI ((ar.o.grown X.o R.o).belowW ai.o);have cp:=cm.o.b9 ai;have cq:=hI ((cl.o).belowW ai.o);have cr:=br.o.b9 ai;have di:=hI (show InX aq.heap.size cn (.mk ⟨s,0,0,⟨#[]⟩,0⟩ [T1]) ⟨⟨s,0,0,⟨#[]⟩,0⟩,some ⟨w32.heap.size,0,none⟩,1,1⟩by rw[hw];exact inx_new1 w32 ⟨s,0,0,⟨#[]⟩,0⟩ c1.o T1 v _ X.o.size dh.o);rw[←hw];clear hw;clear hHeld
      refine hK.out _ _ ⟨cr.o.cell,cr.o.heap,cp.o.cell 1⟩ fun hHeld=>?_
      clear hK K
      try simp only[Lj,Lk,Lq]
      refine tkW 7 ?_
      refine wr1 8 fun K hK=>?_
      have ps:=au.o.cell;have fs:=au.o.frozen;go_simp;rw[pst6 au.o];clear ps fs;obtain⟨Q,bt⟩:=eX (#[.i s,.i 0,.i 0,.string ⟨#[]⟩,.i 0,.l (some ⟨w32.heap.size,0,none⟩) 1 1]:Array Value);have cs:=hI (cp.o.far (t':=57) (Ne.symm da) Q);have ct:=hI (cq.o.far L U 57 Q);have bu:=hI (ak.o.belowW (cq.o.far L U 57 Q).b);have cu:=hI (grown_new (grown_tr (grown_tr ag.o X.o) (grown_of (some g) ai.o)) (Nat.le_refl _) 57 Q);have cv:=hI (di.o.far ar.o.lt 57 Q);have bv:=hI (au.o.put Q);obtain⟨dq,cw⟩:=eX (putB cn (w.heap.size) 57 Q);rw[←bt];rw[←cw]at cs ct bu cu cv bv ⊢;clear cw hHeld;rw[bt]at bv;clear bt
      refine hK.out _ _ ⟨bu.o.cell,bu.o.heap,cs.o.cell 1⟩ fun hHeld=>?_
      clear hK K
      try simp only[Lj,Lk,Lq]
      refine wpAnyH_done (by kernel_rfl) ?_ _;obtain⟨B,_,C,_,D,_,E,_,F,_,G,_⟩:=bv.o.all6;go_wp2;refine bodyPost_ret (v:= .agg #[.i s,.i 0,.i 0,.string ⟨#[]⟩,.i 0,.l (some ⟨w32.heap.size,0,none⟩) 1 1]) (by simp[results,Tryz.results194,go_sem,B,C,D,E,F,G]) rfl ?_;rw[i.o];exact⟨⟨⟨s,0,0,⟨#[]⟩,0⟩,some ⟨w32.heap.size,0,none⟩,1,1⟩,rfl,hI (cv.o.weaken (Nat.le_of_lt ar.o.lt)),cu,ct⟩
