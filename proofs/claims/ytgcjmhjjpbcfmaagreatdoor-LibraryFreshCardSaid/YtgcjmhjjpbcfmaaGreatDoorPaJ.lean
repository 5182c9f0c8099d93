import Derived.Test.YtgcjmhjjpbcfmaaGreatDoorPaI
set_option maxHeartbeats 4000000
set_option maxRecDepth 100000
namespace Go.Proofs.YtgcjmhjjpbcfmaaGreatDoor
open Go.RowKit Go.Fl Go.Fl.Lx Go.Fl.Nm Go.Fl.Fm Go.Fl.Rt Go.Fl.Pa
def factorR(ts:List Tok)(k m:Nat)(r1 r2:PR TE):PR TE:=
  if(tk ts (k+signP ts k)).kind=2∧isS false ts (k+signP ts k+1) [94]=false then(numP ts k).map numE
  else if signP ts k=1 then
    if m=100 then failP ts k 5
    else
      match r1 with
      | .ok e k1=> .ok (opE 7 [e]) k1
      | r=>r
  else
    match r2 with
    | .ok e k1=>
      if isS false ts k1 [94]then
        if integerP ts (k1+1)=false then unex ts (k1+1)
        else if 16<powV (tk ts (k1+1)).text then failP ts (k1+1) 2
        else .ok (powE (powV (tk ts (k1+1)).text) e) (k1+2)
      else .ok e k1
    | r=>r
theorem factorP_eq(nm:List UInt8→Bool)(ts:List Tok)(f k m:Nat):factorP nm ts (f+1) k m=factorR ts k m (factorP nm ts f (k+1) (m+1)) (atomP nm ts f k m):=by
 rw[factorP.eq_def]
 rfl
def DigTs(ts:List Tok):Prop:=∀k,(tk ts k).kind=2→∀c∈(tk ts k).text,c.toNat=46∨(48≤c.toNat∧c.toNat≤57)
theorem int_digits{ts:List Tok}{k:Nat}(h:DigTs ts)(hi:integerP ts k=true):∀c∈(tk ts k).text,48≤c.toNat∧c.toNat≤57:=by
 unfold integerP at hi;rw[Bool.and_eq_true,beq_iff_eq,Bool.not_eq_true']at hi;intro c hc
 rcases h k hi.1 c hc with e | e
 ·
  exfalso
  have h46:c=46:=UInt8.toNat_inj.1 e;rw[h46]at hc;rw[Bool.eq_false_iff]at hi;exact hi.2 (List.contains_iff_mem.2 hc)
 exact e
theorem powV_app(l:List UInt8)(b:UInt8):powV (l++[b])=min (10*powV l+(b.toNat-48)) 17:=by simp[powV]
theorem powV_le(l:List UInt8):powV l≤17:=by
 rcases List.eq_nil_or_concat l with rfl | ⟨a,b,rfl⟩
 ·
  exact Nat.zero_le _
 rw[List.concat_eq_append,powV_app];omega
theorem hd_pow{v:Nat}(h:v≤16):HdOk ⟨8,0,0,⟨#[]⟩,v⟩:=by
 refine⟨?_,?_,?_,?_,?_,?_,?_,?_,Nat.zero_le _⟩<;>simp only<;>omega
theorem pFactor{w0 w:World}{g:Nat}{A:Option Addr}{len cap:Nat}{ts:List Tok}{k m:Nat}(h:Env w0 g A len cap ts k m w)(hk:k≤105000)(hm:m≤100)(hR:RX w0)(hD:DigTs ts)(r1 r2:PR TE)(hro1:signP ts k=1→r1≠ .out)(hr2:r2≠ .out)(hrk:∀T k1,r2= .ok T k1→k1≤105000)
 (K1:signP ts k=1→m≠100→∀w',Env w0 g A len cap ts (k+1) (m+1) w'→Calls Tryz.prog 151 #[.p g] w' (ExR w0 g A len cap ts (m+1) r1 w'))
 (K2:∀w',Env w0 g A len cap ts k m w'→Calls Tryz.prog 194 #[.p g] w' (ExR w0 g A len cap ts m r2 w')):
 Calls Tryz.prog 151 #[.p g] w (ExR w0 g A len cap ts m (factorR ts k m r1 r2) w):=by
 have au:=hI K1;have dj:=hI K2;obtain⟨u,cn⟩:=eX (factorR ts k m r1 r2);have C:=hI cn;rw[←cn];clear K1 K2 cn
 go_in
 go_upto_region 1 with(fail);generalize hw1:World.alloc _ _=w1;obtain⟨O1,F1⟩:=gn1 hw1;clear hw1;have ab:=hI (show some w.heap.size≠some g from fun e=>by have:=h.gl;injection e with e;omega)
 have am:w.heap.size≠g:=fun e=>ab.o (by rw[e])
 have av:w0.heap.size≤w.heap.size:=h.b.size;have d5:g<w.heap.size:=h.gl;have dm:=hI (h.belowW O1.o);have d6:w.heap.size<w1.heap.size:=F1.o.lt;clear h;unfold factorR at C;have dt:=signP_le ts k;obtain⟨s,dn⟩:=eX (signP ts k);have KS:=hI (pSign dm.o);rw[←dn]at KS C au hro1 dt;clear dn;go_wp2_with fail;refine KS.o.mono ?_;rintro e w2 ⟨rfl,cp⟩;have cq:=dm.o.b9 cp;have KT:=hI (cq.o.tok s (by omega));obtain⟨T,dq⟩:=eX (tk ts (k+s));rw[←dq]at KT C
 obtain⟨b2,du⟩:∃b,((T.kind:Int)==2)=b:=⟨_,rfl⟩
 have L:=hI (show(T.kind=2)↔b2=true by rw[←du,beq_iff_eq];omega)
 obtain⟨c,hc⟩:∃c,isS false ts (k+(s+1)) [94]=c:=⟨_,rfl⟩
 rw[Nat.add_assoc k s 1,hc]at C;have e1:IntKind.i64.wrap ((s:Int)+1)=(s:Int)+1:=(by rw[IntKind.wrap_i64];omega)
 obtain⟨bs,dw⟩:∃b,((s:Int)==1)=b:=⟨_,rfl⟩
 have ci:=hI (show(s=1)↔bs=true by rw[←dw,beq_iff_eq];omega);have KU:=hI (fun(w3:World) (hb:Below w2.heap.size w2 w3)=>pIs (cq.o.belowW hb) (s+1) (by omega) ⟨#[94]⟩);rw[show kwP (⟨#[94]⟩:ByteArray).data.toList=false by decide,show(⟨#[94]⟩:ByteArray).data.toList=[94]from rfl,hc]at KU;clear dq hc;go_wp2_with fail;refine KT.o.mono ?_;rintro e w3 ⟨rfl,cj⟩;have hF:=tokF0 T;have ck:=cq.o.b9 cj;have F3:=hI ((F1.o.belowW cp.o).belowW cj.o);have bn:=hI (grown_tr (grown_tr (grown_of (some g) O1.o) (grown_of (some g) cp.o)) (grown_of (some g) cj.o))
 cases b2 with
 | true=>
  go_wp2_with fail;refine(KU.o w3 cj.o).mono ?_;rintro e w4 ⟨rfl,cs⟩;have cl:=ck.o.b9 cs;have F4:=F3.o.b9 cs;have bl:=hI (grown_tr bn.o (grown_of (some g) cs.o))
  cases c with
  | false=>
   have j:=hI (show u=(numP ts k).map numE by rw[C.o,if_pos ⟨L.o.2 (by first | rfl | trivial),rfl⟩]);clear C;have KN:=hI (pNumber cl.o (by omega) hR)
   cases M:numP ts k with
   | out=>exact(numP_out M).elim
   | bad ln co er=>
    have l:=hI (show u= .bad ln co er by rw[j.o,M];rfl);rw[M]at KN;clear M j;go_wp2_with fail;refine KN.o.mono ?_;rintro e w5 ⟨rfl,r⟩;go_wp2_with fail;rw[l.o]
    exact⟨rfl,exr_bad (hI (grown_tr bl.o r.o))⟩
   | ok a k1=>
    have l:=hI (show u= .ok (numE a) k1 by rw[j.o,M];rfl);have dx:=hd_num (numP_small2 M);rw[M]at KN;clear M j;obtain⟨n,d⟩:=a;go_wp2_with fail;refine KN.o.mono ?_;rintro e w5 ⟨rfl,r,V⟩;go_wp2_with fail;refine(pNum (n,d) w5).mono ?_;rintro e w6 ⟨rfl,N⟩;have F6:=hI ((F4.o.grown r.o ab.o).belowW N.o);simp only[ndR,Nd.val];obtain⟨r0,h0,r1,h1,r2,h2,r3,h3,r4,h4,r5,h5⟩:=F6.o.all6;go_wp2;rw[pst6 F6.o];obtain⟨O,_,P,_,Q,_,R,_,S,_,U,_⟩:=(F6.o.put #[.i 1,.i n,.i d,.string ⟨#[]⟩,.i 0,.sn]).all6;refine bodyPost_ret (v:= .agg #[.i 1,.i n,.i d,.string ⟨#[]⟩,.i 0,.sn]) (by simp[results,Tryz.results151,go_sem,O,P,Q,R,S,U]) rfl ?_;rw[l.o]
    exact⟨ndR (n,d),rfl,hI (inx_leaf _ _ _ dx),hI (grown_new (grown_tr bl.o (grown_tr r.o (grown_of (some g) N.o))) (Nat.le_refl _) _ _),hI ((V.o.belowW N.o).far am av _ _)⟩
  | true=>
   have C:=hI (C.o.trans (if_neg (fun e=>by cases e.2)))
   cases bs with
   | true=>
    have ao:=ci.o.2 (by first | rfl | trivial);have j:=hI (C.o.trans (if_pos ao));have hro1:=hro1 ao;have au:=hI (au.o ao);clear C ao;have KD:=hI (deeper_factor cl.o (by omega) hm r1 hro1 au.o);obtain⟨r2,hr2⟩:=eX ((if m=100 then failP ts k 5 else r1));rw[←hr2]at KD;have L:=hI hr2;clear hr2;have W:w.heap.size<w4.heap.size:=F4.o.lt
    cases r2 with
    | out=>
     exfalso
     have x:=L.o
     split at x
     ·
      exact fail_out x.symm
     exact hro1 x.symm
    | bad ln co er=>
     have l:=hI (show u= .bad ln co er by
      have x:=L.o;rw[j.o]
      split at x
      ·
       rename_i h8
       rw[if_pos h8,x]
      rename_i h8
      rw[if_neg h8,←x])
     clear j L;go_wp2_with fail;refine KD.o.mono ?_;rintro e w5 ⟨rfl,r⟩;go_wp2_with fail;rw[l.o]
     exact⟨rfl,exr_bad (hI (grown_tr bl.o r.o))⟩
    | ok T1 k1=>
     have l:=hI (show u= .ok (opE 7 [T1]) k1 by
      have x:=L.o;rw[j.o]
      split at x
      ·
       exact(fail_ok x.symm).elim
      rename_i h8
      rw[if_neg h8,←x])
     clear j L;go_wp2_with fail;refine KD.o.mono ?_;rintro e w5 ⟨v,rfl,ax,r,V⟩;have F5:=hI (F4.o.grown r.o ab.o);obtain⟨wa,F,G,_⟩:=aX w5 57 #[.i v.h.kind,.i v.h.n,.i v.h.d,.string v.h.name,.i v.h.k,.l v.A v.len v.cap];have H:=F5.o.b9 G;have az:=hI (show InX w.heap.size.succ wa (.mk ⟨7,0,0,⟨#[]⟩,0⟩ [T1]) ⟨⟨7,0,0,⟨#[]⟩,0⟩,some ⟨w5.heap.size,0,none⟩,1,1⟩by rw[F];exact inx_new1 w5 ⟨7,0,0,⟨#[]⟩,0⟩ (hd_op (kd:=7) (by decide)) T1 v _ (Nat.succ_le_of_lt F5.o.lt) (ax.o.weaken (Nat.succ_le_of_lt W)));obtain⟨r0,h0,r1,h1,r2,h2,r3,h3,r4,h4,r5,h5⟩:=H.o.all6;rw[F]at r0 r1 r2 r3 r4 r5 h0 h1 h2 h3 h4 h5;go_wp2_with fail;rw[←F];rw[pst6 H.o];obtain⟨O,_,P,_,Q,_,R,_,S,_,U,_⟩:=(H.o.put #[.i 7,.i 0,.i 0,.string ⟨#[]⟩,.i 0,.l (some ⟨w5.heap.size,0,none⟩) 1 1]).all6;refine bodyPost_ret (v:= .agg #[.i 7,.i 0,.i 0,.string ⟨#[]⟩,.i 0,.l (some ⟨w5.heap.size,0,none⟩) 1 1]) (by simp[results,Tryz.results151,go_sem,O,P,Q,R,S,U]) rfl ?_;rw[l.o]
     exact⟨⟨⟨7,0,0,⟨#[]⟩,0⟩,some ⟨w5.heap.size,0,none⟩,1,1⟩,rfl,hI ((az.o.far (Nat.lt_succ_self _) _ _).weaken (Nat.le_succ _)),hI (grown_new (grown_tr (grown_tr bl.o r.o) (grown_of (some g) G.o)) (Nat.le_refl _) _ _),hI ((V.o.belowW G.o).far am av _ _)⟩
   | false=>
    have j:=hI (C.o.trans (if_neg (fun e=>by have:=ci.o.1 e;cases this)));clear C;have KA:=hI (dj.o w4 cl.o);have W:w.heap.size<w4.heap.size:=F4.o.lt;have a6:g<w4.heap.size:=cl.o.gl
    cases r2 with
    | out=>exact(hr2 rfl).elim
    | bad ln co er=>
     have l:=hI (show u= .bad ln co er from j.o);clear j;go_wp2_with fail;refine KA.o.mono ?_;rintro e w5 ⟨rfl,r⟩;go_wp2_with fail;rw[l.o]
     exact⟨rfl,exr_bad (hI (grown_tr bl.o r.o))⟩
    | ok T1 k1=>
     have dy:=hrk T1 k1 rfl
     have j:=hI (show u=(if isS false ts k1 [94]then
      if integerP ts (k1+1)=false then unex ts (k1+1)
      else if 16<powV (tk ts (k1+1)).text then failP ts (k1+1) 2
      else .ok (powE (powV (tk ts (k1+1)).text) T1) (k1+2)
      else .ok T1 k1)from j.o)
     go_wp2_with fail;refine KA.o.mono ?_;rintro e w5 ⟨v,rfl,ax,r,V⟩;go_upto_region 7 with(fail);generalize hw6:World.alloc _ _=w6;obtain⟨N,E6⟩:=gn1 hw6;clear hw6;have F6:=hI ((F4.o.grown r.o ab.o).belowW N.o);have bt:=ax.o.b9 N;have bu:=hI (grown_tr (grown_tr bl.o r.o) (grown_of (some g) N.o));have bv:w5.heap.size≠g:=Nat.ne_of_gt V.o.gl;have bw:=hI (show some w5.heap.size≠some g from fun e=>bv (Option.some.inj e));have KC:=hI (pAccept (V.o.belowW N.o) (by omega) ⟨#[94]⟩);rw[show kwP (⟨#[94]⟩:ByteArray).data.toList=false by decide,show(⟨#[94]⟩:ByteArray).data.toList=[94]from rfl]at KC
     obtain⟨c,hc⟩:∃c,isS false ts k1 [94]=c:=⟨_,rfl⟩
     rw[hc]at KC j;clear hc
     cases c with
     | false=>
      have l:=hI (show u= .ok T1 k1 from j.o);clear j;go_wp2_with fail;refine KC.o.mono ?_;rintro e w7 ⟨rfl,y,D⟩;have D:Hid (Env w0 g A len cap ts k1 m w7):=D;have F7:=hI (F6.o.grown y.o ab.o);obtain⟨a0,b0,a1,b1,a2,b2,a3,b3,a4,b4,a5,b5⟩:=(E6.o.grown y.o bw.o).all6;obtain⟨r0,h0,r1,h1,r2,h2,r3,h3,r4,h4,r5,h5⟩:=F7.o.all6;go_wp2;rw[pst6 F7.o];obtain⟨O,_,P,_,Q,_,R,_,S,_,U,_⟩:=(F7.o.put #[.i v.h.kind,.i v.h.n,.i v.h.d,.string v.h.name,.i v.h.k,.l v.A v.len v.cap]).all6;refine bodyPost_ret (v:= .agg #[.i v.h.kind,.i v.h.n,.i v.h.d,.string v.h.name,.i v.h.k,.l v.A v.len v.cap]) (by simp[results,Tryz.results151,go_sem,O,P,Q,R,S,U]) rfl ?_;rw[l.o]
      exact⟨v,rfl,hI (((bt.o.mv a6 y.o).far W _ _).weaken (Nat.le_of_lt W)),hI (grown_new (grown_tr bu.o y.o) (Nat.le_refl _) _ _),hI (D.o.far am av _ _)⟩
     | true=>
      have j:=hI (show u=(if integerP ts (k1+1)=false then unex ts (k1+1)
       else if 16<powV (tk ts (k1+1)).text then failP ts (k1+1) 2
       else .ok (powE (powV (tk ts (k1+1)).text) T1) (k1+2))from j.o)
      go_wp2_with fail;refine KC.o.mono ?_;rintro e w7 ⟨rfl,y,D⟩;have D:Hid (Env w0 g A len cap ts (k1+1) m w7):=D;have KI:=hI (pInteger D.o 0 (by omega));rw[Nat.add_zero]at KI
      obtain⟨i,hi⟩:∃i,integerP ts (k1+1)=i:=⟨_,rfl⟩
      rw[hi]at KI j;have HI:=hI hi;clear hi;go_wp2_with fail;refine KI.o.mono ?_;rintro e w8 ⟨rfl,X⟩;have aq:Hid (Env w0 g A len cap ts (k1+1) m w8):=D.o.b9 X;have bx:=hI (grown_tr (grown_tr bu.o y.o) (grown_of (some g) X.o))
      cases i with
      | false=>
       have l:=hI (show u=unex ts (k1+1)from j.o);clear j;go_wp2_with fail;refine aq.o.unx.mono ?_;rintro e w9 ⟨he,I⟩;obtain⟨c,hc⟩:=panU_pan ts _;have HC:=hI hc;rw[hc]at he;subst he;clear hc;go_wp2_with fail;rw[l.o]
       exact⟨rfl,exr_unex HC.o.symm (hI (grown_tr bx.o (grown_of _ I.o)))⟩
      | true=>
       have j:=hI (show u=(if 16<powV (tk ts (k1+1)).text then failP ts (k1+1) 2 else .ok (powE (powV (tk ts (k1+1)).text) T1) (k1+2))from j.o);have b6:=hI (int_digits hD HI.o);have KT:=hI (show Calls Tryz.prog 125 #[.p g,.i ((0:Nat):Int)] w8 (RetB (tokV (tk ts (k1+1))) w8)from aq.o.tok 0 (by omega));have c6:(tk ts (k1+1)).text.length≤100:=(aq.o.t.tk (k1+1)).1;obtain⟨o,b7⟩:=eX (tk ts (k1+1));rw[←b7]at KT c6 j b6;clear b7;go_wp2_with fail;refine KT.o.mono ?_;rintro e w9 ⟨rfl,I⟩;have hF:=tokF1 o
       obtain⟨B,J⟩:∃B:ByteArray,B=⟨o.text.toArray⟩:=⟨_,rfl⟩
       have ba:B.size=o.text.length:=by rw[J];exact List.size_toArray ..
       have c7:=hI (show ∀p (h:p<B.size),48≤(B[p]'h).toNat∧(B[p]'h).toNat≤57 by
        subst J;intro p h
        exact b6.o _ (List.getElem_mem (by rw[←ba];exact h)))
       have c8:=hI J;have b8:=hI ba;clear ba;go_wp2_with fail;rw[←J];clear J
       go_loopw [5] (fun dv wr=>∃pos:Nat,pos≤B.size∧wr=w9.iter B pos∧dv= .i (powV (o.text.take pos):Nat)) (fun _ wr=>B.size-wr.iterPos w9.heap.size)
       case atStart=>exact⟨0,Nat.zero_le _,rfl,rfl⟩
       obtain⟨pos,dz,rfl,rfl⟩:=hrel
       by_cases hlt:pos<B.size
       ·
        obtain⟨c9,da⟩:=c7.o pos hlt
        have bb:∀ty,(Instr.next (.p w9.heap.size) true ty).run Tryz.prog (w9.iter B pos)=_:=fun ty=>run_next_ascii w9 B pos ty hlt (by omega)
        have bc:=hI (show powV (o.text.take (pos+1))=min (10*powV (o.text.take pos)+((B[pos]'hlt).toNat -48)) 17 by
         rw[List.take_succ_eq_append_getElem (by rw[←b8.o];exact hlt),powV_app];have J:=c8.o;subst J
         rfl)
        have bd:=powV_le (o.text.take pos)
        obtain⟨q,M⟩:∃q:Nat,q=(B[pos]'hlt).toNat:=⟨_,rfl⟩
        rw[←M]at bb c9 da bc
        obtain⟨z,Y⟩:∃z:Nat,z=powV (o.text.take pos):=⟨_,rfl⟩
        rw[←Y]at bd bc ⊢;clear M Y;have e1:IntKind.i32.wrap ((q:Int)-48)=((q-48:Nat):Int):=(by rw[IntKind.wrap_i32];omega);have e2:IntKind.i64.wrap (10*(z:Int))=((10*z:Nat):Int):=(by rw[IntKind.wrap_i64];omega);have e3:IntKind.i64.wrap ((q-48:Nat):Int)=((q-48:Nat):Int):=(by rw[IntKind.wrap_i64];omega);have e4:IntKind.i64.wrap (((10*z:Nat):Int)+((q-48:Nat):Int))=((10*z+(q-48):Nat):Int):=(by rw[IntKind.wrap_i64];omega)
        go_wp2
        go_roundw
        case rel=>exact⟨pos+1,by omega,rfl,by rw[bc];congr 1;omega⟩
        case measure=>simp;omega
       obtain rfl:pos=B.size:=by omega
       have bb:∀ty,(Instr.next (.p w9.heap.size) true ty).run Tryz.prog (w9.iter B B.size)=_:=fun ty=>run_next_end w9 B B.size ty hlt
       have ca:=hI (show o.text.take B.size=o.text by rw[b8.o];exact List.take_length);rw[ca.o];have bd:=powV_le o.text
       obtain⟨z,Y⟩:∃z:Nat,z=powV o.text:=⟨_,rfl⟩
       rw[←Y]at bd j ⊢;clear Y ca;go_upto_region 16 with(fail);obtain⟨Z,hw⟩:=eX (w9.iter B B.size);have aa:=hI (show Below w9.heap.size w9 Z by rw[hw];exact iter_below _ _ _);rw[←hw];clear hw bb;have bf:=hI ((aq.o.belowW I.o).belowW aa.o);have cb:=hI (grown_tr (grown_tr bx.o (grown_of (some g) I.o)) (grown_of (some g) aa.o))
       by_cases hz16:16<z
       ·
        have l:=hI (show u=failP ts (k1+1) 2 by rw[j.o,if_pos hz16]);clear j;have d1:decide ((16:Int)<(z:Int))=true:=dT;go_wp2_with fail;refine(bf.o.fail 2).mono ?_;rintro e E ⟨rfl,dc⟩;go_wp2_with fail;rw[l.o];exact⟨rfl,exr_fail (hI (grown_tr cb.o (grown_of _ dc.o)))⟩
       have l:=hI (show u= .ok (powE z T1) (k1+2)by rw[j.o,if_neg hz16]);clear j;have d1:decide ((16:Int)<(z:Int))=false:=dF;have e1:IntKind.i64.wrap (((k1+1:Nat):Int)+1)=((k1+2:Nat):Int):=(by rw[IntKind.wrap_i64];omega);have d4:IntKind.i64.wrap ((k1:Int)+1+1)=((k1+2:Nat):Int):=(by rw[IntKind.wrap_i64];omega);have HP:=hI (show Blk Z g 124 #[.l A len cap,.i ((k1+1:Nat):Int),.i (m:Nat)]from bf.o.p);obtain⟨p0,f0,p1,f1,p2,f2⟩:=HP.o.all3;go_upto_region 19 with(fail);rw[HP.o.setCell_eq];have bh:=hI (putB_grown Z g 124 #[.l A len cap,.i ((k1+2:Nat):Int),.i (m:Nat)]);have cc:=hI (bf.o.put (k1+2) m (by omega));have cd:=hI (((((E6.o.grown y.o bw.o).belowW X.o).belowW I.o).belowW aa.o).far (t':=124) bv #[.l A len cap,.i ((k1+2:Nat):Int),.i (m:Nat)]);have bi:=hI (((((F6.o.grown y.o ab.o).belowW X.o).belowW I.o).belowW aa.o).far (t':=124) am #[.l A len cap,.i ((k1+2:Nat):Int),.i (m:Nat)]);have ce:=hI (((((bt.o.mv a6 y.o).belowW X.o).belowW I.o).belowW aa.o).mv a6 bh.o);have cf:=hI (grown_tr cb.o bh.o);obtain⟨E,bj⟩:=eX (putB Z g 124 #[.l A len cap,.i ((k1+2:Nat):Int),.i (m:Nat)]);have cg:putB Z g 124 ((#[.l A len cap,.i ((k1+1:Nat):Int),.i (m:Nat)]:Array Value).setIfInBounds 1 (.i ((k1:Int)+2)))=E:=(by rw[bj];rfl);rw[←bj]at cc cd bi ce cf;rw[cg];clear bj cg p0 f0 p1 f1 p2 f2 HP bh;obtain⟨a0,b0,a1,b1,a2,b2,a3,b3,a4,b4,a5,b5⟩:=cd.o.all6;obtain⟨wa,F,G,_⟩:=aX E 57 #[.i v.h.kind,.i v.h.n,.i v.h.d,.string v.h.name,.i v.h.k,.l v.A v.len v.cap];have H:=bi.o.b9 G;have az:=hI (show InX w.heap.size.succ wa (.mk ⟨8,0,0,⟨#[]⟩,(z:Nat)⟩ [T1]) ⟨⟨8,0,0,⟨#[]⟩,(z:Nat)⟩,some ⟨E.heap.size,0,none⟩,1,1⟩by rw[F];exact inx_new1 E ⟨8,0,0,⟨#[]⟩,(z:Nat)⟩ (hd_pow (by omega)) T1 v _ (Nat.succ_le_of_lt bi.o.lt) (ce.o.weaken (Nat.succ_le_of_lt W)));obtain⟨r0,h0,r1,h1,r2,h2,r3,h3,r4,h4,r5,h5⟩:=H.o.all6;rw[F]at r0 r1 r2 r3 r4 r5 h0 h1 h2 h3 h4 h5;go_wp2_with fail;rw[←F];rw[pst6 H.o];obtain⟨O,_,P,_,Q,_,R,_,S,_,U,_⟩:=(H.o.put #[.i 8,.i 0,.i 0,.string ⟨#[]⟩,.i (z:Nat),.l (some ⟨E.heap.size,0,none⟩) 1 1]).all6;refine bodyPost_ret (v:= .agg #[.i 8,.i 0,.i 0,.string ⟨#[]⟩,.i (z:Nat),.l (some ⟨E.heap.size,0,none⟩) 1 1]) (by simp[results,Tryz.results151,go_sem,O,P,Q,R,S,U]) rfl ?_;rw[l.o]
       exact⟨⟨⟨8,0,0,⟨#[]⟩,(z:Nat)⟩,some ⟨E.heap.size,0,none⟩,1,1⟩,rfl,hI ((az.o.far (Nat.lt_succ_self _) _ _).weaken (Nat.le_succ _)),hI (grown_new (grown_tr cf.o (grown_of (some g) G.o)) (Nat.le_refl _) _ _),hI ((cc.o.belowW G.o).far am av _ _)⟩
 | false=>
  have C:=hI (C.o.trans (if_neg (fun e=>by have:=L.o.1 e.1;cases this)))
  cases bs with
  | true=>
   have ao:=ci.o.2 (by first | rfl | trivial);have j:=hI (C.o.trans (if_pos ao));have hro1:=hro1 ao;have au:=hI (au.o ao);clear C ao;have KD:=hI (deeper_factor ck.o (by omega) hm r1 hro1 au.o);obtain⟨r2,hr2⟩:=eX ((if m=100 then failP ts k 5 else r1));rw[←hr2]at KD;have L:=hI hr2;clear hr2;have W:w.heap.size<w3.heap.size:=F3.o.lt
   cases r2 with
   | out=>
    exfalso
    have x:=L.o
    split at x
    ·
     exact fail_out x.symm
    exact hro1 x.symm
   | bad ln co er=>
    have l:=hI (show u= .bad ln co er by
     have x:=L.o;rw[j.o]
     split at x
     ·
      rename_i h8
      rw[if_pos h8,x]
     rename_i h8
     rw[if_neg h8,←x])
    clear j L;go_wp2_with fail;refine KD.o.mono ?_;rintro e w5 ⟨rfl,r⟩;go_wp2_with fail;rw[l.o]
    exact⟨rfl,exr_bad (hI (grown_tr bn.o r.o))⟩
   | ok T1 k1=>
    have l:=hI (show u= .ok (opE 7 [T1]) k1 by
     have x:=L.o;rw[j.o]
     split at x
     ·
      exact(fail_ok x.symm).elim
     rename_i h8
     rw[if_neg h8,←x])
    clear j L;go_wp2_with fail;refine KD.o.mono ?_;rintro e w5 ⟨v,rfl,ax,r,V⟩;have F5:=hI (F3.o.grown r.o ab.o);obtain⟨wa,F,G,_⟩:=aX w5 57 #[.i v.h.kind,.i v.h.n,.i v.h.d,.string v.h.name,.i v.h.k,.l v.A v.len v.cap];have H:=F5.o.b9 G;have az:=hI (show InX w.heap.size.succ wa (.mk ⟨7,0,0,⟨#[]⟩,0⟩ [T1]) ⟨⟨7,0,0,⟨#[]⟩,0⟩,some ⟨w5.heap.size,0,none⟩,1,1⟩by rw[F];exact inx_new1 w5 ⟨7,0,0,⟨#[]⟩,0⟩ (hd_op (kd:=7) (by decide)) T1 v _ (Nat.succ_le_of_lt F5.o.lt) (ax.o.weaken (Nat.succ_le_of_lt W)));obtain⟨r0,h0,r1,h1,r2,h2,r3,h3,r4,h4,r5,h5⟩:=H.o.all6;rw[F]at r0 r1 r2 r3 r4 r5 h0 h1 h2 h3 h4 h5;go_wp2_with fail;rw[←F];rw[pst6 H.o];obtain⟨O,_,P,_,Q,_,R,_,S,_,U,_⟩:=(H.o.put #[.i 7,.i 0,.i 0,.string ⟨#[]⟩,.i 0,.l (some ⟨w5.heap.size,0,none⟩) 1 1]).all6;refine bodyPost_ret (v:= .agg #[.i 7,.i 0,.i 0,.string ⟨#[]⟩,.i 0,.l (some ⟨w5.heap.size,0,none⟩) 1 1]) (by simp[results,Tryz.results151,go_sem,O,P,Q,R,S,U]) rfl ?_;rw[l.o]
    exact⟨⟨⟨7,0,0,⟨#[]⟩,0⟩,some ⟨w5.heap.size,0,none⟩,1,1⟩,rfl,hI ((az.o.far (Nat.lt_succ_self _) _ _).weaken (Nat.le_succ _)),hI (grown_new (grown_tr (grown_tr bn.o r.o) (grown_of (some g) G.o)) (Nat.le_refl _) _ _),hI ((V.o.belowW G.o).far am av _ _)⟩
  | false=>
   have j:=hI (C.o.trans (if_neg (fun e=>by have:=ci.o.1 e;cases this)));clear C;have KA:=hI (dj.o w3 ck.o);have W:w.heap.size<w3.heap.size:=F3.o.lt;have a6:g<w3.heap.size:=ck.o.gl
   cases r2 with
   | out=>exact(hr2 rfl).elim
   | bad ln co er=>
    have l:=hI (show u= .bad ln co er from j.o);clear j;go_wp2_with fail;refine KA.o.mono ?_;rintro e w5 ⟨rfl,r⟩;go_wp2_with fail;rw[l.o]
    exact⟨rfl,exr_bad (hI (grown_tr bn.o r.o))⟩
   | ok T1 k1=>
    have dy:=hrk T1 k1 rfl
    have j:=hI (show u=(if isS false ts k1 [94]then
     if integerP ts (k1+1)=false then unex ts (k1+1)
     else if 16<powV (tk ts (k1+1)).text then failP ts (k1+1) 2
     else .ok (powE (powV (tk ts (k1+1)).text) T1) (k1+2)
     else .ok T1 k1)from j.o)
    go_wp2_with fail;refine KA.o.mono ?_;rintro e w5 ⟨v,rfl,ax,r,V⟩;go_upto_region 7 with(fail);generalize hw6:World.alloc _ _=w6;obtain⟨N,E6⟩:=gn1 hw6;clear hw6;have F6:=hI ((F3.o.grown r.o ab.o).belowW N.o);have bt:=ax.o.b9 N;have bu:=hI (grown_tr (grown_tr bn.o r.o) (grown_of (some g) N.o));have bv:w5.heap.size≠g:=Nat.ne_of_gt V.o.gl;have bw:=hI (show some w5.heap.size≠some g from fun e=>bv (Option.some.inj e));have KC:=hI (pAccept (V.o.belowW N.o) (by omega) ⟨#[94]⟩);rw[show kwP (⟨#[94]⟩:ByteArray).data.toList=false by decide,show(⟨#[94]⟩:ByteArray).data.toList=[94]from rfl]at KC
    obtain⟨c,hc⟩:∃c,isS false ts k1 [94]=c:=⟨_,rfl⟩
    rw[hc]at KC j;clear hc
    cases c with
    | false=>
     have l:=hI (show u= .ok T1 k1 from j.o);clear j;go_wp2_with fail;refine KC.o.mono ?_;rintro e w7 ⟨rfl,y,D⟩;have D:Hid (Env w0 g A len cap ts k1 m w7):=D;have F7:=hI (F6.o.grown y.o ab.o);obtain⟨a0,b0,a1,b1,a2,b2,a3,b3,a4,b4,a5,b5⟩:=(E6.o.grown y.o bw.o).all6;obtain⟨r0,h0,r1,h1,r2,h2,r3,h3,r4,h4,r5,h5⟩:=F7.o.all6;go_wp2;rw[pst6 F7.o];obtain⟨O,_,P,_,Q,_,R,_,S,_,U,_⟩:=(F7.o.put #[.i v.h.kind,.i v.h.n,.i v.h.d,.string v.h.name,.i v.h.k,.l v.A v.len v.cap]).all6;refine bodyPost_ret (v:= .agg #[.i v.h.kind,.i v.h.n,.i v.h.d,.string v.h.name,.i v.h.k,.l v.A v.len v.cap]) (by simp[results,Tryz.results151,go_sem,O,P,Q,R,S,U]) rfl ?_;rw[l.o]
     exact⟨v,rfl,hI (((bt.o.mv a6 y.o).far W _ _).weaken (Nat.le_of_lt W)),hI (grown_new (grown_tr bu.o y.o) (Nat.le_refl _) _ _),hI (D.o.far am av _ _)⟩
    | true=>
     have j:=hI (show u=(if integerP ts (k1+1)=false then unex ts (k1+1)
      else if 16<powV (tk ts (k1+1)).text then failP ts (k1+1) 2
      else .ok (powE (powV (tk ts (k1+1)).text) T1) (k1+2))from j.o)
     go_wp2_with fail;refine KC.o.mono ?_;rintro e w7 ⟨rfl,y,D⟩;have D:Hid (Env w0 g A len cap ts (k1+1) m w7):=D;have KI:=hI (pInteger D.o 0 (by omega));rw[Nat.add_zero]at KI
     obtain⟨i,hi⟩:∃i,integerP ts (k1+1)=i:=⟨_,rfl⟩
     rw[hi]at KI j;have HI:=hI hi;clear hi;go_wp2_with fail;refine KI.o.mono ?_;rintro e w8 ⟨rfl,X⟩;have aq:Hid (Env w0 g A len cap ts (k1+1) m w8):=D.o.b9 X;have bx:=hI (grown_tr (grown_tr bu.o y.o) (grown_of (some g) X.o))
     cases i with
     | false=>
      have l:=hI (show u=unex ts (k1+1)from j.o);clear j;go_wp2_with fail;refine aq.o.unx.mono ?_;rintro e w9 ⟨he,I⟩;obtain⟨c,hc⟩:=panU_pan ts _;have HC:=hI hc;rw[hc]at he;subst he;clear hc;go_wp2_with fail;rw[l.o]
      exact⟨rfl,exr_unex HC.o.symm (hI (grown_tr bx.o (grown_of _ I.o)))⟩
     | true=>
      have j:=hI (show u=(if 16<powV (tk ts (k1+1)).text then failP ts (k1+1) 2 else .ok (powE (powV (tk ts (k1+1)).text) T1) (k1+2))from j.o);have b6:=hI (int_digits hD HI.o);have KT:=hI (show Calls Tryz.prog 125 #[.p g,.i ((0:Nat):Int)] w8 (RetB (tokV (tk ts (k1+1))) w8)from aq.o.tok 0 (by omega));have c6:(tk ts (k1+1)).text.length≤100:=(aq.o.t.tk (k1+1)).1;obtain⟨o,b7⟩:=eX (tk ts (k1+1));rw[←b7]at KT c6 j b6;clear b7;go_wp2_with fail;refine KT.o.mono ?_;rintro e w9 ⟨rfl,I⟩;have hF:=tokF1 o
      obtain⟨B,J⟩:∃B:ByteArray,B=⟨o.text.toArray⟩:=⟨_,rfl⟩
      have ba:B.size=o.text.length:=by rw[J];exact List.size_toArray ..
      have c7:=hI (show ∀p (h:p<B.size),48≤(B[p]'h).toNat∧(B[p]'h).toNat≤57 by
       subst J;intro p h
       exact b6.o _ (List.getElem_mem (by rw[←ba];exact h)))
      have c8:=hI J;have b8:=hI ba;clear ba;go_wp2_with fail;rw[←J];clear J
      go_loopw [5] (fun dv wr=>∃pos:Nat,pos≤B.size∧wr=w9.iter B pos∧dv= .i (powV (o.text.take pos):Nat)) (fun _ wr=>B.size-wr.iterPos w9.heap.size)
      case atStart=>exact⟨0,Nat.zero_le _,rfl,rfl⟩
      obtain⟨pos,dz,rfl,rfl⟩:=hrel
      by_cases hlt:pos<B.size
      ·
       obtain⟨c9,da⟩:=c7.o pos hlt
       have bb:∀ty,(Instr.next (.p w9.heap.size) true ty).run Tryz.prog (w9.iter B pos)=_:=fun ty=>run_next_ascii w9 B pos ty hlt (by omega)
       have bc:=hI (show powV (o.text.take (pos+1))=min (10*powV (o.text.take pos)+((B[pos]'hlt).toNat -48)) 17 by
        rw[List.take_succ_eq_append_getElem (by rw[←b8.o];exact hlt),powV_app];have J:=c8.o;subst J
        rfl)
       have bd:=powV_le (o.text.take pos)
       obtain⟨q,M⟩:∃q:Nat,q=(B[pos]'hlt).toNat:=⟨_,rfl⟩
       rw[←M]at bb c9 da bc
       obtain⟨z,Y⟩:∃z:Nat,z=powV (o.text.take pos):=⟨_,rfl⟩
       rw[←Y]at bd bc ⊢;clear M Y;have e1:IntKind.i32.wrap ((q:Int)-48)=((q-48:Nat):Int):=(by rw[IntKind.wrap_i32];omega);have e2:IntKind.i64.wrap (10*(z:Int))=((10*z:Nat):Int):=(by rw[IntKind.wrap_i64];omega);have e3:IntKind.i64.wrap ((q-48:Nat):Int)=((q-48:Nat):Int):=(by rw[IntKind.wrap_i64];omega);have e4:IntKind.i64.wrap (((10*z:Nat):Int)+((q-48:Nat):Int))=((10*z+(q-48):Nat):Int):=(by rw[IntKind.wrap_i64];omega)
       go_wp2
       go_roundw
       case rel=>exact⟨pos+1,by omega,rfl,by rw[bc];congr 1;omega⟩
       case measure=>simp;omega
      obtain rfl:pos=B.size:=by omega
      have bb:∀ty,(Instr.next (.p w9.heap.size) true ty).run Tryz.prog (w9.iter B B.size)=_:=fun ty=>run_next_end w9 B B.size ty hlt
      have ca:=hI (show o.text.take B.size=o.text by rw[b8.o];exact List.take_length);rw[ca.o];have bd:=powV_le o.text
      obtain⟨z,Y⟩:∃z:Nat,z=powV o.text:=⟨_,rfl⟩
      rw[←Y]at bd j ⊢;clear Y ca;go_upto_region 16 with(fail);obtain⟨Z,hw⟩:=eX (w9.iter B B.size);have aa:=hI (show Below w9.heap.size w9 Z by rw[hw];exact iter_below _ _ _);rw[←hw];clear hw bb;have bf:=hI ((aq.o.belowW I.o).belowW aa.o);have cb:=hI (grown_tr (grown_tr bx.o (grown_of (some g) I.o)) (grown_of (some g) aa.o))
      by_cases hz16:16<z
      ·
       have l:=hI (show u=failP ts (k1+1) 2 by rw[j.o,if_pos hz16]);clear j;have d1:decide ((16:Int)<(z:Int))=true:=dT;go_wp2_with fail;refine(bf.o.fail 2).mono ?_;rintro e E ⟨rfl,dc⟩;go_wp2_with fail;rw[l.o];exact⟨rfl,exr_fail (hI (grown_tr cb.o (grown_of _ dc.o)))⟩
      have l:=hI (show u= .ok (powE z T1) (k1+2)by rw[j.o,if_neg hz16]);clear j;have d1:decide ((16:Int)<(z:Int))=false:=dF;have e1:IntKind.i64.wrap (((k1+1:Nat):Int)+1)=((k1+2:Nat):Int):=(by rw[IntKind.wrap_i64];omega);have d4:IntKind.i64.wrap ((k1:Int)+1+1)=((k1+2:Nat):Int):=(by rw[IntKind.wrap_i64];omega);have HP:=hI (show Blk Z g 124 #[.l A len cap,.i ((k1+1:Nat):Int),.i (m:Nat)]from bf.o.p);obtain⟨p0,f0,p1,f1,p2,f2⟩:=HP.o.all3;go_upto_region 19 with(fail);rw[HP.o.setCell_eq];have bh:=hI (putB_grown Z g 124 #[.l A len cap,.i ((k1+2:Nat):Int),.i (m:Nat)]);have cc:=hI (bf.o.put (k1+2) m (by omega));have cd:=hI (((((E6.o.grown y.o bw.o).belowW X.o).belowW I.o).belowW aa.o).far (t':=124) bv #[.l A len cap,.i ((k1+2:Nat):Int),.i (m:Nat)]);have bi:=hI (((((F6.o.grown y.o ab.o).belowW X.o).belowW I.o).belowW aa.o).far (t':=124) am #[.l A len cap,.i ((k1+2:Nat):Int),.i (m:Nat)]);have ce:=hI (((((bt.o.mv a6 y.o).belowW X.o).belowW I.o).belowW aa.o).mv a6 bh.o);have cf:=hI (grown_tr cb.o bh.o);obtain⟨E,bj⟩:=eX (putB Z g 124 #[.l A len cap,.i ((k1+2:Nat):Int),.i (m:Nat)]);have cg:putB Z g 124 ((#[.l A len cap,.i ((k1+1:Nat):Int),.i (m:Nat)]:Array Value).setIfInBounds 1 (.i ((k1:Int)+2)))=E:=(by rw[bj];rfl);rw[←bj]at cc cd bi ce cf;rw[cg];clear bj cg p0 f0 p1 f1 p2 f2 HP bh;obtain⟨a0,b0,a1,b1,a2,b2,a3,b3,a4,b4,a5,b5⟩:=cd.o.all6;obtain⟨wa,F,G,_⟩:=aX E 57 #[.i v.h.kind,.i v.h.n,.i v.h.d,.string v.h.name,.i v.h.k,.l v.A v.len v.cap];have H:=bi.o.b9 G;have az:=hI (show InX w.heap.size.succ wa (.mk ⟨8,0,0,⟨#[]⟩,(z:Nat)⟩ [T1]) ⟨⟨8,0,0,⟨#[]⟩,(z:Nat)⟩,some ⟨E.heap.size,0,none⟩,1,1⟩by rw[F];exact inx_new1 E ⟨8,0,0,⟨#[]⟩,(z:Nat)⟩ (hd_pow (by omega)) T1 v _ (Nat.succ_le_of_lt bi.o.lt) (ce.o.weaken (Nat.succ_le_of_lt W)));obtain⟨r0,h0,r1,h1,r2,h2,r3,h3,r4,h4,r5,h5⟩:=H.o.all6;rw[F]at r0 r1 r2 r3 r4 r5 h0 h1 h2 h3 h4 h5;go_wp2_with fail;rw[←F];rw[pst6 H.o];obtain⟨O,_,P,_,Q,_,R,_,S,_,U,_⟩:=(H.o.put #[.i 8,.i 0,.i 0,.string ⟨#[]⟩,.i (z:Nat),.l (some ⟨E.heap.size,0,none⟩) 1 1]).all6;refine bodyPost_ret (v:= .agg #[.i 8,.i 0,.i 0,.string ⟨#[]⟩,.i (z:Nat),.l (some ⟨E.heap.size,0,none⟩) 1 1]) (by simp[results,Tryz.results151,go_sem,O,P,Q,R,S,U]) rfl ?_;rw[l.o];exact⟨⟨⟨8,0,0,⟨#[]⟩,(z:Nat)⟩,some ⟨E.heap.size,0,none⟩,1,1⟩,rfl,hI ((az.o.far (Nat.lt_succ_self _) _ _).weaken (Nat.le_succ _)),hI (grown_new (grown_tr cf.o (grown_of (some g) G.o)) (Nat.le_refl _) _ _),hI ((cc.o.belowW G.o).far am av _ _)⟩
