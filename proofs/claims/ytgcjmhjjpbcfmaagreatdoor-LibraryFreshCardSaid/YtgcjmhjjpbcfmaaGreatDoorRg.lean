import Derived.Test.YtgcjmhjjpbcfmaaGreatDoorRf
set_option linter.unusedVariables false
set_option maxHeartbeats 4000000
set_option maxRecDepth 100000
namespace Go.Proofs.YtgcjmhjjpbcfmaaGreatDoor
open Go.RowKit Go.Fl Go.Fl.Lx Go.Fl.Nm Go.Fl.Fm Go.Fl.Rt Go.Fl.Pa
def PRP{α:Type}(P:α→World→Ending→World→Prop)(w0:World)(g:Nat)(A:Option Addr)(len cap:Nat)(ts:List Tok)(m:Nat)(r:PR α)(w:World)(e:Ending)(w':World):Prop:=
  match r with
  | .ok a k1=>P a w e w'∧Hid (w.grownBy w' (some g))∧Hid (Env w0 g A len cap ts k1 m w')
  | .bad ln co er=>e=pan ln co er∧Hid (w.grownBy w' (some g))
  | .out=>False
section
variable {α:Type} {P:α→World→Ending→World→Prop} {w0:World} {g:Nat} {A:Option Addr} {len cap:Nat} {ts:List Tok} {m:Nat} {w w':World}
theorem prp_bad{ln co er:Nat}(hg:Hid (w.grownBy w' (some g))):PRP P w0 g A len cap ts m (.bad ln co er) w (pan ln co er) w':=⟨rfl,hg⟩
theorem prp_unex{k:Nat}{e:Ending}(he:e=panU ts k)(hg:Hid (w.grownBy w' (some g))):PRP P w0 g A len cap ts m (unex ts k) w e w':=by
 unfold unex failP;unfold panU at he
 split
 ·
  rename_i h
  rw[if_pos h]at he;exact⟨he,hg⟩
 rename_i h
 rw[if_neg h]at he;exact⟨he,hg⟩
end
def UniV(_:Unit)(_:World)(e:Ending)(_:World):Prop:=e= .returned (.tuple #[])
def RatV(a:Int×Int)(_:World)(e:Ending)(_:World):Prop:=e= .returned (.agg #[.i a.1,.i a.2])
def RgV(r:RgP)(_:World)(e:Ending)(_:World):Prop:=e= .returned (.agg #[.i r.lo.1,.i r.lo.2,.i r.hi.1,.i r.hi.2])
def DcV(d:DcP)(_:World)(e:Ending)(_:World):Prop:=e= .returned (.agg #[.string ⟨d.s.toArray⟩,.i d.r.lo.1,.i d.r.lo.2,.i d.r.hi.1,.i d.r.hi.2])
theorem rat_prp{w0:World}{g:Nat}{A:Option Addr}{len cap:Nat}{ts:List Tok}{m:Nat}{r:PR (Int×Int)}{w w':World}{e:Ending}(h:RtP w0 g A len cap ts m r w e w'):PRP RatV w0 g A len cap ts m r w e w':=by
 cases r<;>exact h
def NmV(s:List UInt8)(_:World)(e:Ending)(_:World):Prop:=e= .returned (.string ⟨s.toArray⟩)
theorem pNm{w0 w:World}{g:Nat}{A:Option Addr}{len cap:Nat}{ts:List Tok}{k m:Nat}(h:Env w0 g A len cap ts k m w)(hk:k≤110000):Calls Tryz.prog 95 #[.p g] w (PRP NmV w0 g A len cap ts m (nmR nameP ts k) w):=
 (pName h hk).mono fun e w' hx=>by
  have e:nameR ts k=nmR nameP ts k:=rfl;rw[e]at hx
  revert hx
  cases nmR nameP ts k<;>exact fun hx=>hx
theorem pWant{w0 w:World}{g:Nat}{A:Option Addr}{len cap:Nat}{ts:List Tok}{k m:Nat}(h:Env w0 g A len cap ts k m w)(hk:k≤140000)(s:List UInt8)(kw:Bool)(hkw:kwP s=kw):Calls Tryz.prog 56 #[.p g,.string ⟨s.toArray⟩] w (PRP UniV w0 g A len cap ts m (wantP ts kw s k) w):=by
 subst hkw;unfold wantP
 cases hs:isS (kwP s) ts k s with
 | true=>exact(pWantY h hk ⟨s.toArray⟩ hs).mono fun e w' hx=>hx
 | false=>exact(pWantN h hk ⟨s.toArray⟩ hs).mono fun e w' hx=>prp_unex hx.1 hx.2
section
variable {w:World} {g:Nat} {t:TypeId}
theorem pst5{a b c d e:Value}(hB:Blk w g t #[a,b,c,d,e])(a' b' c' d' e':Value):
 ((((w.setCell ⟨g,0,none⟩ a').setCell ⟨g,1,none⟩ b').setCell ⟨g,2,none⟩ c').setCell ⟨g,3,none⟩ d').setCell ⟨g,4,none⟩ e'=putB w g t #[a',b',c',d',e']:=by
 rw[hB.setCell_eq 0 a',(hB.put _).setCell_eq 1 b',putB_putB,(hB.put _).setCell_eq 2 c',putB_putB,(hB.put _).setCell_eq 3 d',putB_putB,(hB.put _).setCell_eq 4 e',putB_putB]
 rfl
theorem pst14{a b c d e:Value}(hB:Blk w g t #[a,b,c,d,e])(b' c' d' e':Value):
 (((w.setCell ⟨g,1,none⟩ b').setCell ⟨g,2,none⟩ c').setCell ⟨g,3,none⟩ d').setCell ⟨g,4,none⟩ e'=putB w g t #[a,b',c',d',e']:=by
 rw[hB.setCell_eq 1 b',(hB.put _).setCell_eq 2 c',putB_putB,(hB.put _).setCell_eq 3 d',putB_putB,(hB.put _).setCell_eq 4 e',putB_putB]
 rfl
end
theorem pValue{w0 w:World}{g:Nat}{A:Option Addr}{len cap:Nat}{ts:List Tok}{k m:Nat}(h:Env w0 g A len cap ts k m w)(hk:k≤120000)(hR:RX w0):Calls Tryz.prog 57 #[.p g] w (PRP RatV w0 g A len cap ts m (valP ts k) w):=by
 obtain⟨j,q⟩:=eX (valP ts k);have D:=hI q;rw[←q];clear q;have N:ts.length≤100000:=(by have:=h.t.hl;have:=h.t.hs;omega)
 go_in
 go_upto_region 1 with(fail);generalize hw1:World.alloc _ _=w1;obtain⟨E,F⟩:=gn1 hw1;clear hw1;have s:=hI (show some w.heap.size≠some g from fun e=>by have:=h.gl;injection e with e;omega)
 have G:w.heap.size≠g:=fun e=>s.o (by rw[e])
 have H:w0.heap.size≤w.heap.size:=h.b.size;have u:=hI (h.belowW E.o);have I:=hI (grown_of (some g) E.o);clear h;have p:=hI (pFraction u.o (by omega))
 cases hb:fracP ts k with
 | false=>
  have l:=hI (show j=numP ts k by rw[D.o];unfold valP;rw[hb];rfl);rw[hb]at p;clear hb;go_wp2_with fail;refine p.o.mono ?_;rintro e w2 ⟨rfl,i⟩;have n:=hI (grown_tr I.o (grown_of (some g) i.o));have c:=hI ((pNumber (u.o.belowW i.o) (by omega) hR).mono fun e w' hx=>rat_prp hx)
  cases hn1:numP ts k with
  | out=>
   rw[hn1]at c;clear hn1;go_wp2_with fail;refine c.o.mono ?_;rintro e w9 hx
   exact hx.elim
  | bad ln co er=>
   rw[hn1]at c;have x:=hI (show j= .bad ln co er by rw[l.o,hn1]<;>rfl);clear hn1;go_wp2_with fail;refine c.o.mono ?_;rintro e w9 ⟨rfl,y⟩;go_wp2_with fail;rw[x.o]
   exact⟨rfl,prp_bad (hI (grown_tr n.o y.o))⟩
  | ok a k1=>
   rw[hn1]at c;have J:=(fun a k1 h=>numP_ok (ts:=ts) (k:=k) (k1:=k1) (r:=a) h) _ _ hn1;have B:=hI (show j= .ok a k1 by rw[l.o,hn1]<;>rfl);clear hn1;go_wp2_with fail;refine c.o.mono ?_;rintro e wq1 ⟨hx,o,C⟩
   cases hx
   have d:=hI ((F.o.belowW i.o).grown o.o s.o);have L:=d.o.cell;have M:=d.o.frozen;go_wp2;rw[pst2 d.o];have z:=(d.o.put #[.i a.1,.i a.2]).cell;refine bodyPost_ret (v:= .agg #[.i a.1,.i a.2]) (by simp[results,Tryz.results57,go_sem,z]) rfl ?_;rw[B.o]
   exact⟨rfl,hI (grown_new (grown_tr n.o o.o) (Nat.le_refl _) _ _),hI (C.o.far G H _ _)⟩
 | true=>
  have l:=hI (show j=quotP ts k by rw[D.o];unfold valP;rw[hb];rfl);rw[hb]at p;clear hb;go_wp2_with fail;refine p.o.mono ?_;rintro e w2 ⟨rfl,i⟩;have n:=hI (grown_tr I.o (grown_of (some g) i.o));have c:=hI ((pQuotient (u.o.belowW i.o) (by omega) hR).mono fun e w' hx=>rat_prp hx)
  cases hn1:quotP ts k with
  | out=>
   rw[hn1]at c;clear hn1;go_wp2_with fail;refine c.o.mono ?_;rintro e w9 hx
   exact hx.elim
  | bad ln co er=>
   rw[hn1]at c;have x:=hI (show j= .bad ln co er by rw[l.o,hn1]<;>rfl);clear hn1;go_wp2_with fail;refine c.o.mono ?_;rintro e w9 ⟨rfl,y⟩;go_wp2_with fail;rw[x.o]
   exact⟨rfl,prp_bad (hI (grown_tr n.o y.o))⟩
  | ok a k1=>
   rw[hn1]at c;have J:=(fun a k1 h=>quotP_ok (ts:=ts) (k:=k) (k1:=k1) (r:=a) h) _ _ hn1;have B:=hI (show j= .ok a k1 by rw[l.o,hn1]<;>rfl);clear hn1;go_wp2_with fail;refine c.o.mono ?_;rintro e wq1 ⟨hx,o,C⟩
   cases hx
   have d:=hI ((F.o.belowW i.o).grown o.o s.o);have L:=d.o.cell;have M:=d.o.frozen;go_wp2;rw[pst2 d.o];have z:=(d.o.put #[.i a.1,.i a.2]).cell;refine bodyPost_ret (v:= .agg #[.i a.1,.i a.2]) (by simp[results,Tryz.results57,go_sem,z]) rfl ?_;rw[B.o];exact⟨rfl,hI (grown_new (grown_tr n.o o.o) (Nat.le_refl _) _ _),hI (C.o.far G H _ _)⟩
theorem pSpan{w0 w:World}{g:Nat}{A:Option Addr}{len cap:Nat}{ts:List Tok}{k m:Nat}(h:Env w0 g A len cap ts k m w)(hk:k≤110000)(hR:RX w0):Calls Tryz.prog 96 #[.p g] w (PRP RgV w0 g A len cap ts m (spanP ts k) w):=by
 obtain⟨d,N⟩:=eX (spanP ts k);have R:=hI N;rw[←N];clear N;have aq:ts.length≤100000:=(by have:=h.t.hl;have:=h.t.hs;omega)
 go_in
 go_upto_region 1 with(fail);generalize hw1:World.alloc _ _=w1;obtain⟨S,T⟩:=gn1 hw1;clear hw1;have l:=hI (show some w.heap.size≠some g from fun e=>by have:=h.gl;injection e with e;omega)
 have U:w.heap.size≠g:=fun e=>l.o (by rw[e])
 have V:w0.heap.size≤w.heap.size:=h.b.size;have ag:=hI (h.belowW S.o);have W:=hI (grown_of (some g) S.o);clear h;have s:=hI (pAccept ag.o (by omega) ⟨#[91]⟩);rw[show kwP (⟨#[91]⟩:ByteArray).data.toList=false by decide,show(⟨#[91]⟩:ByteArray).data.toList=[91]from rfl]at s
 cases hb:isS false ts k [91]with
 | false=>
  have u:=hI (show d=(valP ts k).bind fun v k1=> .ok ⟨v,v⟩ k1 by rw[R.o];unfold spanP;rw[hb];rfl);rw[hb]at s;clear hb;go_wp2_with fail;refine s.o.mono ?_;rintro e w2 ⟨rfl,x,y⟩;simp only[Bool.false_eq_true,if_false]at y;have O:=hI (T.o.grown x.o l.o);have B:=hI (grown_tr W.o x.o);have a:=hI (pValue y.o (by omega) hR)
  cases hn1:valP ts k with
  | out=>
   rw[hn1]at a;clear hn1;go_wp2_with fail;refine a.o.mono ?_;rintro e w9 c
   exact c.elim
  | bad ln co er=>
   rw[hn1]at a;have i:=hI (show d= .bad ln co er by rw[u.o,hn1]<;>rfl);clear hn1;go_wp2_with fail;refine a.o.mono ?_;rintro e w9 ⟨rfl,j⟩;go_wp2_with fail;rw[i.o]
   exact⟨rfl,prp_bad (hI (grown_tr B.o j.o))⟩
  | ok v k1=>
   rw[hn1]at a;have ah:=(val_fw (ts:=ts) k) _ _ hn1;have F:=hI (show d= .ok ⟨v,v⟩ k1 by rw[u.o,hn1]<;>rfl);clear hn1;go_wp2_with fail;refine a.o.mono ?_;rintro e wq1 ⟨c,C,G⟩
   cases c
   have D:=hI (O.o.grown C.o l.o);go_upto_region 3 with(fail);generalize hw9:World.alloc _ _=wb2;obtain⟨n,o⟩:=gn1 hw9;clear hw9;obtain⟨H,p⟩:=eX (wq1.heap.size);have ai:w.heap.size<H:=(by rw[p];exact D.o.lt);rw[←p]at o ⊢;clear p;have I:=D.o.b9 n;have cr:=I.o.cell;have fr:=I.o.frozen;have ca:=o.o.cell;have fa:=o.o.frozen;go_wp2;rw[pst4 I.o];have z:=(I.o.put #[.i v.1,.i v.2,.i v.1,.i v.2]).cell;refine bodyPost_ret (v:= .agg #[.i v.1,.i v.2,.i v.1,.i v.2]) (by simp[results,Tryz.results96,go_sem,z]) rfl ?_;rw[F.o]
   exact⟨rfl,hI (grown_new (grown_tr (grown_tr B.o C.o) (grown_of (some g) n.o)) (Nat.le_refl _) _ _),hI ((G.o.belowW n.o).far U V _ _)⟩
 | true=>
  have ar:=isS_lt hb;have u:=hI (show d=(valP ts (k+1)).bind fun lo k1=>(wantP ts false [44] k1).bind fun _ k2=>(valP ts k2).bind fun hi k3=>(wantP ts false [93] k3).bind fun _ k4=> .ok ⟨lo,hi⟩ k4 by rw[R.o];unfold spanP;rw[hb];rfl);rw[hb]at s;clear hb;go_wp2_with fail;refine s.o.mono ?_;rintro e w2 ⟨rfl,x,y⟩;simp only[if_true]at y;have O:=hI (T.o.grown x.o l.o);have B:=hI (grown_tr W.o x.o);have a:=hI (pValue y.o (by omega) hR)
  cases hn1:valP ts (k+1)with
  | out=>
   rw[hn1]at a;clear hn1;go_wp2_with fail;refine a.o.mono ?_;rintro e w9 c
   exact c.elim
  | bad ln co er=>
   rw[hn1]at a;have i:=hI (show d= .bad ln co er by rw[u.o,hn1]<;>rfl);clear hn1;go_wp2_with fail;refine a.o.mono ?_;rintro e w9 ⟨rfl,j⟩;go_wp2_with fail;rw[i.o]
   exact⟨rfl,prp_bad (hI (grown_tr B.o j.o))⟩
  | ok lo k1=>
   rw[hn1]at a;have ah:=(val_fw (ts:=ts) (k+1)) _ _ hn1;have F:=hI (show d=(wantP ts false [44] k1).bind fun _ k2=>(valP ts k2).bind fun hi k3=>(wantP ts false [93] k3).bind fun _ k4=> .ok ⟨lo,hi⟩ k4 by rw[u.o,hn1]<;>rfl);clear hn1;go_wp2_with fail;refine a.o.mono ?_;rintro e wq1 ⟨c,C,G⟩
   cases c
   have D:=hI (O.o.grown C.o l.o);go_upto_region 5 with(fail);generalize hw9:World.alloc _ _=wb2;obtain⟨n,o⟩:=gn1 hw9;clear hw9;obtain⟨H,p⟩:=eX (wq1.heap.size);have q:=hI (show some H≠some g from fun e=>by have:=G.o.gl;injection e with e;omega);have ai:w.heap.size<H:=(by rw[p];exact D.o.lt);rw[←p]at o ⊢;clear p;have X:=hI (grown_tr (grown_tr B.o C.o) (grown_of (some g) n.o));have a:=hI (pWant (G.o.belowW n.o) (by omega) [44] false (by decide))
   cases hn3:wantP ts false [44] k1 with
   | out=>
    rw[hn3]at a;clear hn3;go_wp2_with fail;refine a.o.mono ?_;rintro e w9 c
    exact c.elim
   | bad ln co er=>
    rw[hn3]at a;have i:=hI (show d= .bad ln co er by rw[F.o,hn3]<;>rfl);clear hn3;go_wp2_with fail;refine a.o.mono ?_;rintro e w9 ⟨rfl,j⟩;go_wp2_with fail;rw[i.o]
    exact⟨rfl,prp_bad (hI (grown_tr X.o j.o))⟩
   | ok u1 k2=>
    rw[hn3]at a;have au:=(want_fw (ts:=ts) false [44] k1) _ _ hn3;have Y:=hI (show d=(valP ts k2).bind fun hi k3=>(wantP ts false [93] k3).bind fun _ k4=> .ok ⟨lo,hi⟩ k4 by rw[F.o,hn3]<;>rfl);clear hn3;go_wp2_with fail;refine a.o.mono ?_;rintro e wq3 ⟨c,J,an⟩
    cases c
    have Z:=hI (grown_tr X.o J.o);have a:=hI (pValue an.o (by omega) hR)
    cases hn4:valP ts k2 with
    | out=>
     rw[hn4]at a;clear hn4;go_wp2_with fail;refine a.o.mono ?_;rintro e w9 c
     exact c.elim
    | bad ln co er=>
     rw[hn4]at a;have i:=hI (show d= .bad ln co er by rw[Y.o,hn4]<;>rfl);clear hn4;go_wp2_with fail;refine a.o.mono ?_;rintro e w9 ⟨rfl,j⟩;go_wp2_with fail;rw[i.o]
     exact⟨rfl,prp_bad (hI (grown_tr Z.o j.o))⟩
    | ok hi k3=>
     rw[hn4]at a;have av:=(val_fw (ts:=ts) k2) _ _ hn4;have aa:=hI (show d=(wantP ts false [93] k3).bind fun _ k4=> .ok ⟨lo,hi⟩ k4 by rw[Y.o,hn4]<;>rfl);clear hn4;go_wp2_with fail;refine a.o.mono ?_;rintro e wq4 ⟨c,L,ab⟩
     cases c
     have ac:=hI (((D.o.belowW n.o).grown J.o l.o).grown L.o l.o);go_upto_region 7 with(fail);generalize hw9:World.alloc _ _=wb5;obtain⟨E,P⟩:=gn1 hw9;clear hw9;obtain⟨gb,Q⟩:=eX (wq4.heap.size);have ae:=hI (show some gb≠some g from fun e=>by have:=ab.o.gl;injection e with e;omega);have aw:w.heap.size<gb:=(by rw[Q];exact ac.o.lt);rw[←Q]at P ⊢;clear Q;have af:=hI (grown_tr (grown_tr Z.o L.o) (grown_of (some g) E.o));have a:=hI (pWant (ab.o.belowW E.o) (by omega) [93] false (by decide))
     cases hn6:wantP ts false [93] k3 with
     | out=>
      rw[hn6]at a;clear hn6;go_wp2_with fail;refine a.o.mono ?_;rintro e w9 c
      exact c.elim
     | bad ln co er=>
      rw[hn6]at a;have i:=hI (show d= .bad ln co er by rw[aa.o,hn6]<;>rfl);clear hn6;go_wp2_with fail;refine a.o.mono ?_;rintro e w9 ⟨rfl,j⟩;go_wp2_with fail;rw[i.o]
      exact⟨rfl,prp_bad (hI (grown_tr af.o j.o))⟩
     | ok u2 k4=>
      rw[hn6]at a;have ax:=(want_fw (ts:=ts) false [93] k3) _ _ hn6;have ao:=hI (show d= .ok ⟨lo,hi⟩ k4 by rw[aa.o,hn6]<;>rfl);clear hn6;go_wp2_with fail;refine a.o.mono ?_;rintro e wq6 ⟨c,r,ap⟩
      cases c
      have M:=hI ((ac.o.belowW E.o).grown r.o l.o);have cr:=M.o.cell;have fr:=M.o.frozen;have ca:=((((o.o.grown J.o q.o).grown L.o q.o).belowW E.o).grown r.o q.o).cell;have fa:=((((o.o.grown J.o q.o).grown L.o q.o).belowW E.o).grown r.o q.o).frozen;have cb:=(P.o.grown r.o ae.o).cell;have fb:=(P.o.grown r.o ae.o).frozen;go_wp2;rw[pst4 M.o];have z:=(M.o.put #[.i lo.1,.i lo.2,.i hi.1,.i hi.2]).cell;refine bodyPost_ret (v:= .agg #[.i lo.1,.i lo.2,.i hi.1,.i hi.2]) (by simp[results,Tryz.results96,go_sem,z]) rfl ?_;rw[ao.o];exact⟨rfl,hI (grown_new (grown_tr af.o r.o) (Nat.le_refl _) _ _),hI (ap.o.far U V _ _)⟩
theorem pDecl{w0 w:World}{g:Nat}{A:Option Addr}{len cap:Nat}{ts:List Tok}{k m:Nat}(h:Env w0 g A len cap ts k m w)(hk:k≤105000)(hR:RX w0):Calls Tryz.prog 54 #[.p g] w (PRP DcV w0 g A len cap ts m (declP nameP ts k) w):=by
 obtain⟨d,C⟩:=eX (declP nameP ts k);have ac:=hI C;rw[←C];clear C;have ak:ts.length≤100000:=(by have:=h.t.hl;have:=h.t.hs;omega)
 go_in
 go_upto_region 1 with(fail);generalize hw1:World.alloc _ _=w1;obtain⟨L,F1⟩:=gn1 hw1;clear hw1;have l:=hI (show some w.heap.size≠some g from fun e=>by have:=h.gl;injection e with e;omega)
 have ae:w.heap.size≠g:=fun e=>l.o (by rw[e])
 have M:w0.heap.size≤w.heap.size:=h.b.size;have af:=hI (h.belowW L.o);have N:=hI (grown_of (some g) L.o);clear h;have O:=hI (show d=(nmR nameP ts k).bind fun n k1=>(wantP ts true kIn k1).bind fun _ k2=>(spanP ts k2).bind fun r k3=>(wantP ts false [59] k3).bind fun _ k4=> .ok ⟨n,r⟩ k4 from ac.o);have a:=hI (pNm af.o (by omega))
 cases hn1:nmR nameP ts k with
 | out=>
  rw[hn1]at a;clear hn1;go_wp2_with fail;refine a.o.mono ?_;rintro e w9 c
  exact c.elim
 | bad ln co er=>
  rw[hn1]at a;have i:=hI (show d= .bad ln co er by rw[O.o,hn1]<;>rfl);clear hn1;go_wp2_with fail;refine a.o.mono ?_;rintro e w9 ⟨rfl,j⟩;go_wp2_with fail;rw[i.o]
  exact⟨rfl,prp_bad (hI (grown_tr N.o j.o))⟩
 | ok n k1=>
  rw[hn1]at a;have al:=(nmR_fw (nm:=nameP) (ts:=ts) k) _ _ hn1;have P:=hI (show d=(wantP ts true kIn k1).bind fun _ k2=>(spanP ts k2).bind fun r k3=>(wantP ts false [59] k3).bind fun _ k4=> .ok ⟨n,r⟩ k4 by rw[O.o,hn1]<;>rfl);clear hn1;go_wp2_with fail;refine a.o.mono ?_;rintro e wq1 ⟨c,Q,R⟩
  cases c
  have S:=hI (F1.o.grown Q.o l.o);go_upto_region 2 with(fail);generalize o:World.alloc _ _=wb2;obtain⟨D,T⟩:=gn1 o;clear o;obtain⟨s,E⟩:=eX (wq1.heap.size);have p:=hI (show some s≠some g from fun e=>by have:=R.o.gl;injection e with e;omega);have F:w.heap.size<s:=(by rw[E];exact S.o.lt);rw[←E]at T ⊢;clear E;have U:=hI (grown_tr (grown_tr N.o Q.o) (grown_of (some g) D.o));have a:=hI (pWant (R.o.belowW D.o) (by omega) kIn true (by decide))
  cases hn3:wantP ts true kIn k1 with
  | out=>
   rw[hn3]at a;clear hn3;go_wp2_with fail;refine a.o.mono ?_;rintro e w9 c
   exact c.elim
  | bad ln co er=>
   rw[hn3]at a;have i:=hI (show d= .bad ln co er by rw[P.o,hn3]<;>rfl);clear hn3;go_wp2_with fail;refine a.o.mono ?_;rintro e w9 ⟨rfl,j⟩;go_wp2_with fail;rw[i.o]
   exact⟨rfl,prp_bad (hI (grown_tr U.o j.o))⟩
  | ok u1 k2=>
   rw[hn3]at a;have am:=(want_fw (ts:=ts) true kIn k1) _ _ hn3;have V:=hI (show d=(spanP ts k2).bind fun r k3=>(wantP ts false [59] k3).bind fun _ k4=> .ok ⟨n,r⟩ k4 by rw[P.o,hn3]<;>rfl);clear hn3;go_wp2_with fail;refine a.o.mono ?_;rintro e wq3 ⟨c,G,ag⟩
   cases c
   have W:=hI (grown_tr U.o G.o);have a:=hI (pSpan ag.o (by omega) hR)
   cases hn4:spanP ts k2 with
   | out=>
    rw[hn4]at a;clear hn4;go_wp2_with fail;refine a.o.mono ?_;rintro e w9 c
    exact c.elim
   | bad ln co er=>
    rw[hn4]at a;have i:=hI (show d= .bad ln co er by rw[V.o,hn4]<;>rfl);clear hn4;go_wp2_with fail;refine a.o.mono ?_;rintro e w9 ⟨rfl,j⟩;go_wp2_with fail;rw[i.o]
    exact⟨rfl,prp_bad (hI (grown_tr W.o j.o))⟩
   | ok r k3=>
    rw[hn4]at a;have an:=(span_fw (ts:=ts) k2) _ _ hn4;have X:=hI (show d=(wantP ts false [59] k3).bind fun _ k4=> .ok ⟨n,r⟩ k4 by rw[V.o,hn4]<;>rfl);clear hn4;go_wp2_with fail;refine a.o.mono ?_;rintro e wq4 ⟨c,H,ah⟩
    cases c
    have u:=hI ((T.o.grown G.o p.o).grown H.o p.o);have Y:=u.o.cell;have Z:=u.o.frozen;go_upto_region 4 with(fail);rw[pst14 u.o];obtain⟨q,I⟩:=eX (#[.string ⟨n.toArray⟩,.i r.lo.1,.i r.lo.2,.i r.hi.1,.i r.hi.2]:Array Value);have x:=hI (u.o.put q);have J:=hI (grown_new (grown_tr W.o H.o) (Nat.le_of_lt F) 54 q);have aa:=hI (ah.o.far (r:=s) (fun e=>p.o (by rw[e])) (Nat.le_trans M (Nat.le_of_lt F)) 54 q);have ab:=hI ((((S.o.belowW D.o).grown G.o l.o).grown H.o l.o).far (t':=54) (Nat.ne_of_lt F) q);obtain⟨ao,o⟩:=eX (putB wq4 s 54 q);rw[←I];rw[←o]at J aa ab x ⊢;clear o Y Z;rw[I]at x;clear I;have a:=hI (pWant aa.o (by omega) [59] false (by decide))
    cases hn6:wantP ts false [59] k3 with
    | out=>
     rw[hn6]at a;clear hn6;go_wp2_with fail;refine a.o.mono ?_;rintro e w9 c
     exact c.elim
    | bad ln co er=>
     rw[hn6]at a;have i:=hI (show d= .bad ln co er by rw[X.o,hn6]<;>rfl);clear hn6;go_wp2_with fail;refine a.o.mono ?_;rintro e w9 ⟨rfl,j⟩;go_wp2_with fail;rw[i.o]
     exact⟨rfl,prp_bad (hI (grown_tr J.o j.o))⟩
    | ok u2 k4=>
     rw[hn6]at a;have ap:=(want_fw (ts:=ts) false [59] k3) _ _ hn6;have ai:=hI (show d= .ok ⟨n,r⟩ k4 by rw[X.o,hn6]<;>rfl);clear hn6;go_wp2_with fail;refine a.o.mono ?_;rintro e wq6 ⟨c,y,aj⟩
     cases c
     have B:=hI (ab.o.grown y.o l.o);have cr:=B.o.cell;have fr:=B.o.frozen;have Y:=(x.o.grown y.o p.o).cell;have Z:=(x.o.grown y.o p.o).frozen;go_wp2;rw[pst5 B.o];have z:=(B.o.put #[.string ⟨n.toArray⟩,.i r.lo.1,.i r.lo.2,.i r.hi.1,.i r.hi.2]).cell;refine bodyPost_ret (v:= .agg #[.string ⟨n.toArray⟩,.i r.lo.1,.i r.lo.2,.i r.hi.1,.i r.hi.2]) (by simp[results,Tryz.results54,go_sem,z]) rfl ?_;rw[ai.o];exact⟨rfl,hI (grown_new (grown_tr J.o y.o) (Nat.le_refl _) _ _),hI (aj.o.far ae M _ _)⟩
structure PzOk {Z:Type} (Pz:(Nat→Prop)→World→Z→Prop):Prop where
  mv:∀{P:Nat→Prop} {w w':World} {r:Option Nat} {z:Z},Pz P w z→(∀b,P b→some b≠r)→w.grownBy w' r→Pz P w' z
  weaken:∀{P Q:Nat→Prop} {w:World} {z:Z},Pz P w z→(∀b,P b→Q b)→Pz Q w z
  lt:∀{P:Nat→Prop} {w:World} {z:Z},Pz P w z→Pz (fun b=>P b∧b<w.heap.size) w z
theorem ina_mv{P:Nat→Prop}{w w':World}{r:Option Nat}{T:TE}{v:Nd}(h:InA P w T v)(hr:∀b,P b→some b≠r)(hg:w.grownBy w' r):InA P w' T v:=by
 cases r with
 | none=>exact h.belowW ⟨hg.os,hg.tape,hg.output,hg.size,fun k hk=>hg.block k hk (by simp)⟩
 | some g=>exact InA.mv h (fun hp=>hr g hp rfl) hg
structure Mk {Z:Type} (e:TypeId) (m:Nat) (cells:Z→List Value) (Pz:(Nat→Prop)→World→Z→Prop) (base:Nat) (w:World) (v:Value) (zs:List Z):Prop where
  own:w.ownsRow base e m v zs.length (zs.flatMap cells)
  el:∀z∈zs,Pz (fun b=>base≤b∧b<w.heap.size∧some b≠v.ownBlock) w z
section
variable {Z:Type} {e:TypeId} {m:Nat} {cells:Z→List Value} {Pz:(Nat→Prop)→World→Z→Prop} {base:Nat} {w w':World} {v:Value} {zs:List Z}
theorem Mk.nil(e:TypeId)(m:Nat)(cells:Z→List Value)(Pz:(Nat→Prop)→World→Z→Prop)(base:Nat)(w:World):Mk e m cells Pz base w (.sn) ([]:List Z):=
 ⟨⟨by simp,.inl ⟨rfl,rfl⟩⟩,fun z hz=>by cases hz⟩
theorem Mk.moved(hok:PzOk Pz)(h:Mk e m cells Pz base w v zs){r:Option Nat}(hr:r=none∨∃k,r=some k∧k<base)(hg:w.grownBy w' r):Mk e m cells Pz base w' v zs:=by
 refine⟨h.own.kept hg ?_,fun z hz=>hok.weaken (hok.mv (h.el z hz) (fun b hb e=>?_) hg) (fun b hb=>⟨hb.1,Nat.lt_of_lt_of_le hb.2.1 hg.size,hb.2.2⟩)⟩
 ·
  cases hv:v.ownBlock with
  | none=>exact .inl rfl
  | some k=>
   right
   have:=(h.own.lt k hv).1
   rcases hr with e | ⟨j,e,hj⟩
   ·
    rw[e];simp
   rw[e];intro e2;injection e2 with e2;omega
 rcases hr with e2 | ⟨j,e2,hj⟩
 ·
  rw[e2]at e;cases e
 rw[e2]at e;injection e with e;have:=hb.1;omega
theorem Mk.belowW(hok:PzOk Pz)(h:Mk e m cells Pz base w v zs)(hb:Below w.heap.size w w'):Mk e m cells Pz base w' v zs:=h.moved hok (.inl rfl) ⟨hb.os,hb.tape,hb.output,hb.size,fun k hk _=>hb.block k hk⟩
theorem Mk.push(hok:PzOk Pz)(hlen:∀z,(cells z).length=m)(h:Mk e m cells Pz base w v zs){z:Z}(hz:Pz (fun b=>base≤b∧b<w.heap.size∧some b≠v.ownBlock) w z)
    (t ty:TypeId) (i:TypeInfo) (zv:Value) (bytes:Nat) (ht:Tryz.prog.underlying t=some (.slice e)) (hi:Tryz.prog.info? e=some i) (hzv:i.zero=some zv)
    (hsize:i.size=m) (hby:i.bytes=bytes) (hzs:zv.cells.size=m) (hsz:0<m) (hb60:bytes≤1000) (hsm:zs.length≤200000)
    (gs:Nat) (hs:Blk w gs e (cells z).toArray) (hone:∀u∈cells z,u.oneCell'=true) (hbase:base≤w.heap.size) (c:Nat):
    ∃v' w',(Builtin.append_ #[t,t] ty #[v,.l (some ⟨gs,0,none⟩) 1 c]).run Tryz.prog w= .ok v' w'∧Mk e m cells Pz base w' v' (zs++[z])∧w.grownBy w' v.ownBlock∧(v'.ownBlock=v.ownBlock∨v'.ownBlock=some w.heap.size):=by
  obtain⟨v',w',g,k,a,_,d⟩:=run_append_own_at (P:=Tryz.prog) w base t ty e i zv m bytes ht hi hzv hsize hby hzs hsz v zs.length (zs.flatMap cells) h.own ⟨gs,0,none⟩ 1 c (cells z) (by rw[hlen,Nat.one_mul])
    (fun j u hu=>by
      rw[Addr.add_lit,Nat.zero_add,hs.cell j,List.getElem?_toArray]
      exact hu) hone (by unfold maxLen;omega) (by
        have:(zs.length+1)*bytes≤200001*1000:=Nat.mul_le_mul (by omega) hb60
        omega) hbase
  refine⟨v',w',g,⟨by rw[List.length_append,List.flatMap_append];simpa using k,fun x hx=>?_⟩,a,d⟩
  have f:∀x,Pz (fun b=>base≤b∧b<w.heap.size∧some b≠v.ownBlock) w x→Pz (fun b=>base≤b∧b<w'.heap.size∧some b≠v'.ownBlock) w' x:=fun x hx=>
    hok.weaken (hok.mv hx (fun b hb=>hb.2.2) a) (fun b hb=>⟨hb.1,Nat.lt_of_lt_of_le hb.2.1 a.size,by
      rcases d with e5 | e5
      · rw[e5];exact hb.2.2
      · rw[e5];intro e6;injection e6 with e6;omega⟩)
  rcases List.mem_append.1 hx with hx | hx
  · exact f x (h.el x hx)
  · rw[List.mem_singleton.1 hx]
    exact f z hz
theorem wpList_append_mk{ops:Array Oper}{rest:List Oper}{o:Oper}{a:Act}{Q:Exit→Act→World→Prop}(hw:Region.wanted o (yielded ops a.tmps)=true)(s x:Operand)(t:TypeId)
 (ho:o.op= .call {callee:= .builtin .append,args:=#[s,x],argTypes:=#[t,t]})
 (hok:PzOk Pz) (hlen:∀z,(cells z).length=m) (hs:a.eval s=v) (h:Mk e m cells Pz base w v zs) {z:Z} (hz:Pz (fun b=>base≤b∧b<w.heap.size∧some b≠v.ownBlock) w z)
 (i:TypeInfo) (zv:Value) (bytes:Nat) (ht:Tryz.prog.underlying t=some (.slice e)) (hi:Tryz.prog.info? e=some i) (hzv:i.zero=some zv)
 (hsize:i.size=m) (hby:i.bytes=bytes) (hzs:zv.cells.size=m) (hsz:0<m) (hb60:bytes≤1000) (hsm:zs.length≤200000)
 (gs c:Nat) (hx:a.eval x= .l (some ⟨gs,0,none⟩) 1 c) (hblk:Blk w gs e (cells z).toArray) (hone:∀u∈cells z,u.oneCell'=true) (hbase:base≤w.heap.size)
 (k:∀v' w',Mk e m cells Pz base w' v' (zs++[z])→w.grownBy w' v.ownBlock→(v'.ownBlock=v.ownBlock∨v'.ownBlock=some w.heap.size)→wpList Tryz.prog ops Q rest (a.put o.dst v') w'):wpList Tryz.prog ops Q (o::rest) a w:=by
 refine BigFrame.wpList_want hw fun K hK=>?_
 obtain⟨v',w',d,f,g,j⟩:=h.push hok hlen hz t o.type i zv bytes ht hi hzv hsize hby hzs hsz hb60 hsm gs hblk hone hbase c;unfold Oper.wp execOp;simp only[ho,resolve,invoke,builtin,Sem.run_bind,Sem.run_pure,Result.andThen_ok,List.map_toArray,List.map_cons,List.map_nil,hs,hx,d];exact hK _ _ (k v' w' f g j)
structure LiL {Z:Type} (m:Nat) (cells:Z→List Value) (Pz:(Nat→Prop)→World→Z→Prop) (P:Nat→Prop) (w:World) (A:Option Addr) (len cap:Nat) (zs:List Z):Prop where
  il:InL m cells (fun w z=>Pz P w z) w A len cap zs
  hg:0<len→∀b o,A=some ⟨b,o,none⟩→P b
  fz:0<len→NF w A
theorem LiL.weaken(hok:PzOk Pz){P Q:Nat→Prop}{A:Option Addr}{len cap:Nat}(h:LiL m cells Pz P w A len cap zs)(hC:∀b,P b→Q b):LiL m cells Pz Q w A len cap zs:=
 ⟨⟨h.il.hl,h.il.hc,h.il.hm,h.il.hr,fun z hz=>hok.weaken (h.il.hi z hz) hC⟩,fun hn b o e=>hC b (h.hg hn b o e),h.fz⟩
theorem LiL.mv(hok:PzOk Pz){P:Nat→Prop}{A:Option Addr}{len cap:Nat}{r:Option Nat}(h:LiL m cells Pz P w A len cap zs)(hr:∀b,P b→some b≠r)(hg:w.grownBy w' r):LiL m cells Pz P w' A len cap zs:=by
 refine⟨⟨h.il.hl,h.il.hc,h.il.hm,⟨h.il.hr.1,fun hn=>?_⟩,fun z hz=>hok.mv (h.il.hi z hz) hr hg⟩,h.hg,fun hn=>(h.fz hn).mv (fun b o e=>hr b (h.hg hn b o e)) hg⟩;obtain⟨b,off,hA,hlt,hcell⟩:=h.il.hr.2 hn;refine⟨b,off,hA,Nat.lt_of_lt_of_le hlt hg.size,fun j u hu=>?_⟩;have h1:=hcell j u hu;have h2:=hg.block b hlt (hr b (h.hg hn b off hA))
 unfold World.cell? at h1 ⊢
 rw[h2];exact h1
theorem LiL.lt(hok:PzOk Pz){P:Nat→Prop}{A:Option Addr}{len cap:Nat}(h:LiL m cells Pz P w A len cap zs):LiL m cells Pz (fun b=>P b∧b<w.heap.size) w A len cap zs:=by
 refine⟨⟨h.il.hl,h.il.hc,h.il.hm,h.il.hr,fun z hz=>hok.lt (h.il.hi z hz)⟩,fun hn b o e=>⟨h.hg hn b o e,?_⟩,h.fz⟩;obtain⟨b',off,hA,hlt,_⟩:=h.il.hr.2 hn;rw[e]at hA;injection hA with hA;injection hA with hA;rw[hA];exact hlt
theorem Mk.lies(hok:PzOk Pz)(h:Mk e m cells Pz base w v zs):∃A cap,v= .l A zs.length cap∧LiL m cells Pz (fun b=>base≤b) w A zs.length cap zs:=by
 obtain⟨hx,h1 | ⟨g,cap,cur,hv,hg,hcell,hn,hm,hcs,htk⟩⟩:=h.own
 ·
  have hz:zs=[]:=List.eq_nil_of_length_eq_zero h1.2;subst hz;exact⟨none,0,h1.1,⟨rfl,Nat.le_refl _,Nat.zero_le _,Rd.none_ _ _,fun z hz=>by cases hz⟩,fun hn=>absurd hn (Nat.lt_irrefl 0),fun _=>NF.nil w⟩
 refine⟨some ⟨g,0,none⟩,cap,hv,⟨rfl,hn,hm,⟨hx,fun _=>⟨g,0,rfl,(Array.getElem?_eq_some_iff.1 hcell).1,fun j u hu=>?_⟩⟩,fun z hz=>hok.weaken (h.el z hz) (fun b hb=>hb.1)⟩,fun _ b o e=>by injection e with e;injection e with e;rw[←e];exact hg,fun _=>NF.blk hcell⟩;rw[Nat.zero_add]
 unfold World.cell?
 rw[hcell]
 have h2:cur.toList[j]? =some u:=by
  rw[←htk,List.getElem?_take]at hu
  split at hu
  ·
   exact hu
  cases hu
 have h3:cur[j]? =some u:=by rw[←Array.getElem?_toList];exact h2
 simp[h3]
end
def PzD(_:Nat→Prop)(w:World)(x:DcN):Prop:=InD w x
theorem pzD:PzOk PzD:=⟨fun h _ _=>⟨h.r,h.hs⟩,fun h _=>h,fun h=>h⟩
def PzQ(P:Nat→Prop)(w:World)(x:EqN):Prop:=InA P w x.T x.v∧x.s.size≤maxLen
theorem pzQ:PzOk PzQ:=⟨fun h hr hg=>⟨ina_mv h.1 hr hg,h.2⟩,fun h hC=>⟨h.1.weaken hC,h.2⟩,fun h=>⟨h.1.lt,h.2⟩⟩
structure PzG (P:Nat→Prop) (w:World) (x:EdN):Prop where
  e:InA P w x.T x.v
  d1: -9223372036854775808≤x.dir
  d2:x.dir≤9223372036854775807
  hs:x.tn.size≤maxLen
  hr:LiL 7 EqN.cells PzQ P w x.A x.len x.cap x.rs
theorem pzG:PzOk PzG:=⟨fun h hr hg=>⟨ina_mv h.e hr hg,h.d1,h.d2,h.hs,h.hr.mv pzQ hr hg⟩,fun h hC=>⟨h.e.weaken hC,h.d1,h.d2,h.hs,h.hr.weaken pzQ hC⟩,fun h=>⟨h.e.lt,h.d1,h.d2,h.hs,h.hr.lt pzQ⟩⟩
structure PzM (P:Nat→Prop) (w:World) (x:MdN):Prop where
  hs:x.s.size≤maxLen
  hf:LiL 7 EqN.cells PzQ P w x.A x.n x.c x.fl
  he:LiL 9 EdN.cells PzG P w x.B x.m x.d x.ed
theorem pzM:PzOk PzM:=⟨fun h hr hg=>⟨h.hs,h.hf.mv pzQ hr hg,h.he.mv pzG hr hg⟩,fun h hC=>⟨h.hs,h.hf.weaken pzQ hC,h.he.weaken pzG hC⟩,fun h=>⟨h.hs,h.hf.lt pzQ,h.he.lt pzG⟩⟩
theorem inl_mono{Z:Type}{m:Nat}{cells:Z→List Value}{Pw Pv:World→Z→Prop}{w:World}{A:Option Addr}{len cap:Nat}{zs:List Z}(h:InL m cells Pw w A len cap zs)(hC:∀z∈zs,Pw w z→Pv w z):InL m cells Pv w A len cap zs:=
 ⟨h.hl,h.hc,h.hm,h.hr,fun z hz=>hC z hz (h.hi z hz)⟩
theorem PzQ.toQ{P:Nat→Prop}{w:World}{x:EqN}(h:PzQ P w x):InQ w x:=⟨h.1.toE,h.2⟩
theorem PzG.toG{P:Nat→Prop}{w:World}{x:EdN}(h:PzG P w x):InG w x:=⟨h.e.toE,h.d1,h.d2,h.hs,inl_mono h.hr.il (fun z _ hz=>PzQ.toQ hz)⟩
theorem PzM.toM{P:Nat→Prop}{w:World}{x:MdN}(h:PzM P w x):InM w x:=⟨h.hs,inl_mono h.hf.il (fun z _ hz=>PzQ.toQ hz),inl_mono h.he.il (fun z _ hz=>PzG.toG hz)⟩
def DcN.pl(x:DcN):DcP:=⟨x.s.data.toList,⟨(x.a,x.b),(x.c,x.d)⟩⟩
def EqN.pl(x:EqN):EqP:=⟨x.s.data.toList,x.T⟩
def EdN.pl(x:EdN):EdP:=⟨x.T,x.dir,x.tn.data.toList,x.rs.map EqN.pl⟩
def MdN.pl(x:MdN):MdP:=⟨x.s.data.toList,x.fl.map EqN.pl,x.ed.map EdN.pl⟩
