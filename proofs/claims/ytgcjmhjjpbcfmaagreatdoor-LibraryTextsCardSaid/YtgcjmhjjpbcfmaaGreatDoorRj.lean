import Derived.Test.YtgcjmhjjpbcfmaaGreatDoorLbA
set_option linter.unusedVariables false
set_option maxHeartbeats 8000000
set_option maxRecDepth 100000
namespace Go.Fl.Lb
def bs0:List ByteArray:=[(⟨#[120,32,47,32,40,49,32,43,32,120,32,42,32,116,41]⟩:ByteArray)]
def bs1:List ByteArray:=[(⟨#[120,32,43,32,121,32,42,32,116,32,43,32,49,47,50,32,42,32,97,32,42,32,116,94,50]⟩:ByteArray),(⟨#[121,32,43,32,97,32,42,32,116]⟩:ByteArray)]
def bs2:List ByteArray:=[(⟨#[120,32,42,32,40,49,32,43,32,121,32,42,32,116,41]⟩:ByteArray),(⟨#[121,32,47,32,40,49,32,43,32,121,32,42,32,116,41]⟩:ByteArray)]
def bs3:List ByteArray:=[(⟨#[115,32,43,32,116]⟩:ByteArray),(⟨#[120,32,47,32,40,49,32,45,32,120,32,42,32,40,40,115,32,43,32,116,41,94,50,32,45,32,115,94,50,41,41]⟩:ByteArray)]
def bs4:List ByteArray:=[(⟨#[120,32,42,32,101,120,112,40,97,32,42,32,116,41]⟩:ByteArray)]
def bs5:List ByteArray:=[(⟨#[120,32,42,32,99,111,115,40,116,41,32,45,32,121,32,42,32,115,105,110,40,116,41]⟩:ByteArray),(⟨#[120,32,42,32,115,105,110,40,116,41,32,43,32,121,32,42,32,99,111,115,40,116,41]⟩:ByteArray)]
def bs6:List ByteArray:=[(⟨#[120,32,42,32,101,120,112,40,116,41,32,47,32,40,49,32,43,32,120,32,42,32,40,101,120,112,40,116,41,32,45,32,49,41,41]⟩:ByteArray)]
def bs7:List ByteArray:=[(⟨#[40,120,32,42,32,99,111,115,40,116,41,32,43,32,115,105,110,40,116,41,41,32,47,32,40,99,111,115,40,116,41,32,45,32,120,32,42,32,115,105,110,40,116,41,41]⟩:ByteArray)]
def bs8:List ByteArray:=[(⟨#[120,32,42,32,101,120,112,40,116,41]⟩:ByteArray),(⟨#[121,32,42,32,101,120,112,40,120,32,42,32,40,101,120,112,40,116,41,32,45,32,49,41,41]⟩:ByteArray)]
def bs9:List ByteArray:=[(⟨#[115,113,114,116,40,120,94,50,32,43,32,50,32,42,32,116,41]⟩:ByteArray)]
def tyS:TypeId:=9
end Go.Fl.Lb
namespace Go.Proofs.YtgcjmhjjpbcfmaaGreatDoor
open Go.RowKit Go.Fl Go.Fl.Nm Go.Fl.Lb
structure EnN where
  nm:ByteArray
  tx:ByteArray
  A:Option Addr
  n:Nat
  kn:List ByteArray
def EnN.cells(x:EnN):List Value:=[.string x.nm,.string x.tx,.l x.A x.n x.n]
def EnN.pl(x:EnN):En:=⟨x.nm.data.toList,x.tx.data.toList,x.kn.map fun s=>s.data.toList⟩
structure InK (P:Nat→Prop) (w:World) (x:EnN):Prop where
  r:Rd w 1 x.A x.n (x.kn.map Value.string)
  p:∀b o,x.A=some ⟨b,o,none⟩→P b
  f:NF w x.A
theorem InK.below{P:Nat→Prop}{w w':World}{x:EnN}(h:InK P w x)(hb:Below w.heap.size w w'):InK P w' x:=⟨h.r.below hb,h.p,h.f.mv (r:=none) (fun _ _ _ e=>by cases e) ⟨hb.os,hb.tape,hb.output,hb.size,fun k hk _=>hb.block k hk⟩⟩
theorem rd_blk{w:World}{g n m:Nat}{t:TypeId}{xs:List Value}(h:Blk w g t xs.toArray)(hl:xs.length=n*m):Rd w m (some ⟨g,0,none⟩) n xs:=
 ⟨hl,fun _=>⟨g,0,rfl,h.lt,fun j u hu=>by rw[Nat.zero_add];rw[h.cell j];simpa using hu⟩⟩
theorem rd_nil(w:World)(m:Nat):Rd w m none 0 []:=⟨by simp,fun h=>absurd h (Nat.lt_irrefl _)⟩
structure InEs (base:Nat) (w:World) (g:Nat) (zs:List EnN):Prop where
  l:InL 3 EnN.cells (InK (fun b=>base≤b)) w (some ⟨g,0,none⟩) 18 18 zs
  e:zs.map EnN.pl=ents
  g:base≤g
theorem InEs.belowW{base:Nat}{w w':World}{g:Nat}{zs:List EnN}(h:InEs base w g zs)(hb:Below w.heap.size w w'):InEs base w' g zs:=⟨h.l.below (fun z _ hz=>hz.below hb) hb,h.e,h.g⟩
theorem InEs.b9{base:Nat}{w w':World}{g:Nat}{zs:List EnN}(h:InEs base w g zs)(hb:Go.RowKit.Hid (Go.RowKit.Below w.heap.size w w')):Go.RowKit.Hid (InEs base w' g zs):=hI (InEs.belowW h hb.o)
def EsQ(w:World)(e:Ending)(w':World):Prop:=∃(g:Nat) (zs:List EnN),e= .returned (.l (some ⟨g,0,none⟩) 18 18)∧Hid (InEs w.heap.size w' g zs)∧Hid (Below w.heap.size w w')
def zsE(w:World):List EnN:=[⟨⟨#[100,101,99,97,121]⟩,⟨tb0.toArray⟩,some ⟨w.heap.size,0,none⟩,1,bs0⟩,⟨⟨#[102,97,108,108]⟩,⟨tb1.toArray⟩,some ⟨w.heap.size+1,0,none⟩,2,bs1⟩,⟨⟨#[112,114,111,100,117,99,116]⟩,⟨tb2.toArray⟩,some ⟨w.heap.size+1+1,0,none⟩,2,bs2⟩,⟨⟨#[99,108,111,99,107]⟩,⟨tb3.toArray⟩,some ⟨w.heap.size+1+1+1,0,none⟩,2,bs3⟩,⟨⟨#[103,114,111,119,116,104]⟩,⟨tb4.toArray⟩,some ⟨w.heap.size+1+1+1+1,0,none⟩,1,bs4⟩,⟨⟨#[114,111,116,97,116,105,111,110]⟩,⟨tb5.toArray⟩,some ⟨w.heap.size+1+1+1+1+1,0,none⟩,2,bs5⟩,⟨⟨#[108,111,103,105,115,116,105,99]⟩,⟨tb6.toArray⟩,some ⟨w.heap.size+1+1+1+1+1+1,0,none⟩,1,bs6⟩,⟨⟨#[116,97,110,103,101,110,116]⟩,⟨tb7.toArray⟩,some ⟨w.heap.size+1+1+1+1+1+1+1,0,none⟩,1,bs7⟩,⟨⟨#[116,111,119,101,114]⟩,⟨tb8.toArray⟩,some ⟨w.heap.size+1+1+1+1+1+1+1+1,0,none⟩,2,bs8⟩,⟨⟨#[114,111,111,116]⟩,⟨tb9.toArray⟩,some ⟨w.heap.size+1+1+1+1+1+1+1+1+1,0,none⟩,1,bs9⟩,⟨⟨#[118,97,110,100,101,114,112,111,108]⟩,⟨tb10.toArray⟩,none,0,[]⟩,⟨⟨#[108,111,116,107,97]⟩,⟨tb11.toArray⟩,none,0,[]⟩,⟨⟨#[98,114,117,115,115,101,108,97,116,111,114]⟩,⟨tb12.toArray⟩,none,0,[]⟩,⟨⟨#[108,111,114,101,110,122]⟩,⟨tb13.toArray⟩,none,0,[]⟩,⟨⟨#[112,101,110,100,117,108,117,109]⟩,⟨tb14.toArray⟩,none,0,[]⟩,⟨⟨#[99,121,99,108,101]⟩,⟨tb15.toArray⟩,none,0,[]⟩,⟨⟨#[98,97,108,108]⟩,⟨tb16.toArray⟩,none,0,[]⟩,⟨⟨#[116,104,101,114,109,111,115,116,97,116]⟩,⟨tb17.toArray⟩,none,0,[]⟩]
theorem zsE_pl(w:World):(zsE w).map EnN.pl=ents:=rfl
def wE(w:World)(t:TypeId):World:=((((((((((w.alloc (.cells #[.string ⟨#[120,32,47,32,40,49,32,43,32,120,32,42,32,116,41]⟩] tyS)).alloc (.cells #[.string ⟨#[120,32,43,32,121,32,42,32,116,32,43,32,49,47,50,32,42,32,97,32,42,32,116,94,50]⟩,.string ⟨#[121,32,43,32,97,32,42,32,116]⟩] tyS)).alloc (.cells #[.string ⟨#[120,32,42,32,40,49,32,43,32,121,32,42,32,116,41]⟩,.string ⟨#[121,32,47,32,40,49,32,43,32,121,32,42,32,116,41]⟩] tyS)).alloc (.cells #[.string ⟨#[115,32,43,32,116]⟩,.string ⟨#[120,32,47,32,40,49,32,45,32,120,32,42,32,40,40,115,32,43,32,116,41,94,50,32,45,32,115,94,50,41,41]⟩] tyS)).alloc (.cells #[.string ⟨#[120,32,42,32,101,120,112,40,97,32,42,32,116,41]⟩] tyS)).alloc (.cells #[.string ⟨#[120,32,42,32,99,111,115,40,116,41,32,45,32,121,32,42,32,115,105,110,40,116,41]⟩,.string ⟨#[120,32,42,32,115,105,110,40,116,41,32,43,32,121,32,42,32,99,111,115,40,116,41]⟩] tyS)).alloc (.cells #[.string ⟨#[120,32,42,32,101,120,112,40,116,41,32,47,32,40,49,32,43,32,120,32,42,32,40,101,120,112,40,116,41,32,45,32,49,41,41]⟩] tyS)).alloc (.cells #[.string ⟨#[40,120,32,42,32,99,111,115,40,116,41,32,43,32,115,105,110,40,116,41,41,32,47,32,40,99,111,115,40,116,41,32,45,32,120,32,42,32,115,105,110,40,116,41,41]⟩] tyS)).alloc (.cells #[.string ⟨#[120,32,42,32,101,120,112,40,116,41]⟩,.string ⟨#[121,32,42,32,101,120,112,40,120,32,42,32,40,101,120,112,40,116,41,32,45,32,49,41,41]⟩] tyS)).alloc (.cells #[.string ⟨#[115,113,114,116,40,120,94,50,32,43,32,50,32,42,32,116,41]⟩] tyS)).alloc (.cells ((zsE w).flatMap EnN.cells).toArray t)
def wE0(w:World):World:=w
def wE1(w:World):World:=(wE0 w).alloc (.cells #[.string ⟨#[120,32,47,32,40,49,32,43,32,120,32,42,32,116,41]⟩] tyS)
theorem wE1_size(w:World):(wE1 w).heap.size=w.heap.size+1:=by unfold wE1;rw[World.size_alloc,show(wE0 w).heap.size=w.heap.size from rfl]
def wE2(w:World):World:=(wE1 w).alloc (.cells #[.string ⟨#[120,32,43,32,121,32,42,32,116,32,43,32,49,47,50,32,42,32,97,32,42,32,116,94,50]⟩,.string ⟨#[121,32,43,32,97,32,42,32,116]⟩] tyS)
theorem wE2_size(w:World):(wE2 w).heap.size=w.heap.size+1+1:=by unfold wE2;rw[World.size_alloc,wE1_size]
def wE3(w:World):World:=(wE2 w).alloc (.cells #[.string ⟨#[120,32,42,32,40,49,32,43,32,121,32,42,32,116,41]⟩,.string ⟨#[121,32,47,32,40,49,32,43,32,121,32,42,32,116,41]⟩] tyS)
theorem wE3_size(w:World):(wE3 w).heap.size=w.heap.size+1+1+1:=by unfold wE3;rw[World.size_alloc,wE2_size]
def wE4(w:World):World:=(wE3 w).alloc (.cells #[.string ⟨#[115,32,43,32,116]⟩,.string ⟨#[120,32,47,32,40,49,32,45,32,120,32,42,32,40,40,115,32,43,32,116,41,94,50,32,45,32,115,94,50,41,41]⟩] tyS)
theorem wE4_size(w:World):(wE4 w).heap.size=w.heap.size+1+1+1+1:=by unfold wE4;rw[World.size_alloc,wE3_size]
def wE5(w:World):World:=(wE4 w).alloc (.cells #[.string ⟨#[120,32,42,32,101,120,112,40,97,32,42,32,116,41]⟩] tyS)
theorem wE5_size(w:World):(wE5 w).heap.size=w.heap.size+1+1+1+1+1:=by unfold wE5;rw[World.size_alloc,wE4_size]
def wE6(w:World):World:=(wE5 w).alloc (.cells #[.string ⟨#[120,32,42,32,99,111,115,40,116,41,32,45,32,121,32,42,32,115,105,110,40,116,41]⟩,.string ⟨#[120,32,42,32,115,105,110,40,116,41,32,43,32,121,32,42,32,99,111,115,40,116,41]⟩] tyS)
theorem wE6_size(w:World):(wE6 w).heap.size=w.heap.size+1+1+1+1+1+1:=by unfold wE6;rw[World.size_alloc,wE5_size]
def wE7(w:World):World:=(wE6 w).alloc (.cells #[.string ⟨#[120,32,42,32,101,120,112,40,116,41,32,47,32,40,49,32,43,32,120,32,42,32,40,101,120,112,40,116,41,32,45,32,49,41,41]⟩] tyS)
theorem wE7_size(w:World):(wE7 w).heap.size=w.heap.size+1+1+1+1+1+1+1:=by unfold wE7;rw[World.size_alloc,wE6_size]
def wE8(w:World):World:=(wE7 w).alloc (.cells #[.string ⟨#[40,120,32,42,32,99,111,115,40,116,41,32,43,32,115,105,110,40,116,41,41,32,47,32,40,99,111,115,40,116,41,32,45,32,120,32,42,32,115,105,110,40,116,41,41]⟩] tyS)
theorem wE8_size(w:World):(wE8 w).heap.size=w.heap.size+1+1+1+1+1+1+1+1:=by unfold wE8;rw[World.size_alloc,wE7_size]
def wE9(w:World):World:=(wE8 w).alloc (.cells #[.string ⟨#[120,32,42,32,101,120,112,40,116,41]⟩,.string ⟨#[121,32,42,32,101,120,112,40,120,32,42,32,40,101,120,112,40,116,41,32,45,32,49,41,41]⟩] tyS)
theorem wE9_size(w:World):(wE9 w).heap.size=w.heap.size+1+1+1+1+1+1+1+1+1:=by unfold wE9;rw[World.size_alloc,wE8_size]
def wE10(w:World):World:=(wE9 w).alloc (.cells #[.string ⟨#[115,113,114,116,40,120,94,50,32,43,32,50,32,42,32,116,41]⟩] tyS)
theorem wE10_size(w:World):(wE10 w).heap.size=w.heap.size+1+1+1+1+1+1+1+1+1+1:=by unfold wE10;rw[World.size_alloc,wE9_size]
theorem wE_eq(w:World)(t:TypeId):wE w t=(wE10 w).alloc (.cells ((zsE w).flatMap EnN.cells).toArray t):=rfl
theorem blkE0(w:World)(t:TypeId):Blk (wE w t) (w.heap.size) tyS (bs0.map Value.string).toArray:=((((((((((show Blk (wE1 w) (w.heap.size) tyS #[.string ⟨#[120,32,47,32,40,49,32,43,32,120,32,42,32,116,41]⟩]from(by have:=Blk.new (wE0 w) tyS #[.string ⟨#[120,32,47,32,40,49,32,43,32,120,32,42,32,116,41]⟩];rwa [show(wE0 w).heap.size=w.heap.size from rfl]at this)).alloc _).alloc _).alloc _).alloc _).alloc _).alloc _).alloc _).alloc _).alloc _).alloc _
theorem blkE1(w:World)(t:TypeId):Blk (wE w t) (w.heap.size+1) tyS (bs1.map Value.string).toArray:=(((((((((show Blk (wE2 w) (w.heap.size+1) tyS #[.string ⟨#[120,32,43,32,121,32,42,32,116,32,43,32,49,47,50,32,42,32,97,32,42,32,116,94,50]⟩,.string ⟨#[121,32,43,32,97,32,42,32,116]⟩]from(by have:=Blk.new (wE1 w) tyS #[.string ⟨#[120,32,43,32,121,32,42,32,116,32,43,32,49,47,50,32,42,32,97,32,42,32,116,94,50]⟩,.string ⟨#[121,32,43,32,97,32,42,32,116]⟩];rwa [wE1_size]at this)).alloc _).alloc _).alloc _).alloc _).alloc _).alloc _).alloc _).alloc _).alloc _
theorem blkE2(w:World)(t:TypeId):Blk (wE w t) (w.heap.size+1+1) tyS (bs2.map Value.string).toArray:=((((((((show Blk (wE3 w) (w.heap.size+1+1) tyS #[.string ⟨#[120,32,42,32,40,49,32,43,32,121,32,42,32,116,41]⟩,.string ⟨#[121,32,47,32,40,49,32,43,32,121,32,42,32,116,41]⟩]from(by have:=Blk.new (wE2 w) tyS #[.string ⟨#[120,32,42,32,40,49,32,43,32,121,32,42,32,116,41]⟩,.string ⟨#[121,32,47,32,40,49,32,43,32,121,32,42,32,116,41]⟩];rwa [wE2_size]at this)).alloc _).alloc _).alloc _).alloc _).alloc _).alloc _).alloc _).alloc _
theorem blkE3(w:World)(t:TypeId):Blk (wE w t) (w.heap.size+1+1+1) tyS (bs3.map Value.string).toArray:=(((((((show Blk (wE4 w) (w.heap.size+1+1+1) tyS #[.string ⟨#[115,32,43,32,116]⟩,.string ⟨#[120,32,47,32,40,49,32,45,32,120,32,42,32,40,40,115,32,43,32,116,41,94,50,32,45,32,115,94,50,41,41]⟩]from(by have:=Blk.new (wE3 w) tyS #[.string ⟨#[115,32,43,32,116]⟩,.string ⟨#[120,32,47,32,40,49,32,45,32,120,32,42,32,40,40,115,32,43,32,116,41,94,50,32,45,32,115,94,50,41,41]⟩];rwa [wE3_size]at this)).alloc _).alloc _).alloc _).alloc _).alloc _).alloc _).alloc _
theorem blkE4(w:World)(t:TypeId):Blk (wE w t) (w.heap.size+1+1+1+1) tyS (bs4.map Value.string).toArray:=((((((show Blk (wE5 w) (w.heap.size+1+1+1+1) tyS #[.string ⟨#[120,32,42,32,101,120,112,40,97,32,42,32,116,41]⟩]from(by have:=Blk.new (wE4 w) tyS #[.string ⟨#[120,32,42,32,101,120,112,40,97,32,42,32,116,41]⟩];rwa [wE4_size]at this)).alloc _).alloc _).alloc _).alloc _).alloc _).alloc _
theorem blkE5(w:World)(t:TypeId):Blk (wE w t) (w.heap.size+1+1+1+1+1) tyS (bs5.map Value.string).toArray:=(((((show Blk (wE6 w) (w.heap.size+1+1+1+1+1) tyS #[.string ⟨#[120,32,42,32,99,111,115,40,116,41,32,45,32,121,32,42,32,115,105,110,40,116,41]⟩,.string ⟨#[120,32,42,32,115,105,110,40,116,41,32,43,32,121,32,42,32,99,111,115,40,116,41]⟩]from(by have:=Blk.new (wE5 w) tyS #[.string ⟨#[120,32,42,32,99,111,115,40,116,41,32,45,32,121,32,42,32,115,105,110,40,116,41]⟩,.string ⟨#[120,32,42,32,115,105,110,40,116,41,32,43,32,121,32,42,32,99,111,115,40,116,41]⟩];rwa [wE5_size]at this)).alloc _).alloc _).alloc _).alloc _).alloc _
theorem blkE6(w:World)(t:TypeId):Blk (wE w t) (w.heap.size+1+1+1+1+1+1) tyS (bs6.map Value.string).toArray:=((((show Blk (wE7 w) (w.heap.size+1+1+1+1+1+1) tyS #[.string ⟨#[120,32,42,32,101,120,112,40,116,41,32,47,32,40,49,32,43,32,120,32,42,32,40,101,120,112,40,116,41,32,45,32,49,41,41]⟩]from(by have:=Blk.new (wE6 w) tyS #[.string ⟨#[120,32,42,32,101,120,112,40,116,41,32,47,32,40,49,32,43,32,120,32,42,32,40,101,120,112,40,116,41,32,45,32,49,41,41]⟩];rwa [wE6_size]at this)).alloc _).alloc _).alloc _).alloc _
theorem blkE7(w:World)(t:TypeId):Blk (wE w t) (w.heap.size+1+1+1+1+1+1+1) tyS (bs7.map Value.string).toArray:=(((show Blk (wE8 w) (w.heap.size+1+1+1+1+1+1+1) tyS #[.string ⟨#[40,120,32,42,32,99,111,115,40,116,41,32,43,32,115,105,110,40,116,41,41,32,47,32,40,99,111,115,40,116,41,32,45,32,120,32,42,32,115,105,110,40,116,41,41]⟩]from(by have:=Blk.new (wE7 w) tyS #[.string ⟨#[40,120,32,42,32,99,111,115,40,116,41,32,43,32,115,105,110,40,116,41,41,32,47,32,40,99,111,115,40,116,41,32,45,32,120,32,42,32,115,105,110,40,116,41,41]⟩];rwa [wE7_size]at this)).alloc _).alloc _).alloc _
theorem blkE8(w:World)(t:TypeId):Blk (wE w t) (w.heap.size+1+1+1+1+1+1+1+1) tyS (bs8.map Value.string).toArray:=((show Blk (wE9 w) (w.heap.size+1+1+1+1+1+1+1+1) tyS #[.string ⟨#[120,32,42,32,101,120,112,40,116,41]⟩,.string ⟨#[121,32,42,32,101,120,112,40,120,32,42,32,40,101,120,112,40,116,41,32,45,32,49,41,41]⟩]from(by have:=Blk.new (wE8 w) tyS #[.string ⟨#[120,32,42,32,101,120,112,40,116,41]⟩,.string ⟨#[121,32,42,32,101,120,112,40,120,32,42,32,40,101,120,112,40,116,41,32,45,32,49,41,41]⟩];rwa [wE8_size]at this)).alloc _).alloc _
theorem blkE9(w:World)(t:TypeId):Blk (wE w t) (w.heap.size+1+1+1+1+1+1+1+1+1) tyS (bs9.map Value.string).toArray:=(show Blk (wE10 w) (w.heap.size+1+1+1+1+1+1+1+1+1) tyS #[.string ⟨#[115,113,114,116,40,120,94,50,32,43,32,50,32,42,32,116,41]⟩]from(by have:=Blk.new (wE9 w) tyS #[.string ⟨#[115,113,114,116,40,120,94,50,32,43,32,50,32,42,32,116,41]⟩];rwa [wE9_size]at this)).alloc _
theorem wE_below(w:World)(t:TypeId):Below w.heap.size w (wE w t):=by
 have h:∀(a:World) (o:Obj),Below w.heap.size w a→Below w.heap.size w (a.alloc o):=fun a o h=>h.trans ((below_box a o).mono h.size)
 rw[wE_eq];exact h _ _ (h _ _ (h _ _ (h _ _ (h _ _ (h _ _ (h _ _ (h _ _ (h _ _ (h _ _ (h _ _ (Below.refl _ _)))))))))))
theorem zsE_in(w:World)(t:TypeId):∀z∈zsE w,InK (fun b=>w.heap.size≤b) (wE w t) z:=by
 intro z hz;unfold zsE at hz;simp only[List.mem_cons,List.not_mem_nil,or_false]at hz;obtain rfl | rfl | rfl | rfl | rfl | rfl | rfl | rfl | rfl | rfl | rfl | rfl | rfl | rfl | rfl | rfl | rfl | rfl:=hz
 ·
  exact⟨rd_blk (blkE0 w t) rfl,fun b o h=>by injection h with h;injection h with h;subst h;omega,NF.blk (blkE0 w t)⟩
 ·
  exact⟨rd_blk (blkE1 w t) rfl,fun b o h=>by injection h with h;injection h with h;subst h;omega,NF.blk (blkE1 w t)⟩
 ·
  exact⟨rd_blk (blkE2 w t) rfl,fun b o h=>by injection h with h;injection h with h;subst h;omega,NF.blk (blkE2 w t)⟩
 ·
  exact⟨rd_blk (blkE3 w t) rfl,fun b o h=>by injection h with h;injection h with h;subst h;omega,NF.blk (blkE3 w t)⟩
 ·
  exact⟨rd_blk (blkE4 w t) rfl,fun b o h=>by injection h with h;injection h with h;subst h;omega,NF.blk (blkE4 w t)⟩
 ·
  exact⟨rd_blk (blkE5 w t) rfl,fun b o h=>by injection h with h;injection h with h;subst h;omega,NF.blk (blkE5 w t)⟩
 ·
  exact⟨rd_blk (blkE6 w t) rfl,fun b o h=>by injection h with h;injection h with h;subst h;omega,NF.blk (blkE6 w t)⟩
 ·
  exact⟨rd_blk (blkE7 w t) rfl,fun b o h=>by injection h with h;injection h with h;subst h;omega,NF.blk (blkE7 w t)⟩
 ·
  exact⟨rd_blk (blkE8 w t) rfl,fun b o h=>by injection h with h;injection h with h;subst h;omega,NF.blk (blkE8 w t)⟩
 ·
  exact⟨rd_blk (blkE9 w t) rfl,fun b o h=>by injection h with h;injection h with h;subst h;omega,NF.blk (blkE9 w t)⟩
 ·
  exact⟨rd_nil _ _,(fun b o h=>by cases h),NF.nil _⟩
 ·
  exact⟨rd_nil _ _,(fun b o h=>by cases h),NF.nil _⟩
 ·
  exact⟨rd_nil _ _,(fun b o h=>by cases h),NF.nil _⟩
 ·
  exact⟨rd_nil _ _,(fun b o h=>by cases h),NF.nil _⟩
 ·
  exact⟨rd_nil _ _,(fun b o h=>by cases h),NF.nil _⟩
 ·
  exact⟨rd_nil _ _,(fun b o h=>by cases h),NF.nil _⟩
 ·
  exact⟨rd_nil _ _,(fun b o h=>by cases h),NF.nil _⟩
 exact⟨rd_nil _ _,(fun b o h=>by cases h),NF.nil _⟩
theorem inEs(w:World)(t:TypeId):InEs w.heap.size (wE w t) (w.heap.size+1+1+1+1+1+1+1+1+1+1) (zsE w):=by
 refine⟨⟨rfl,Nat.le_refl _,by unfold maxLen;omega,?_,zsE_in w t⟩,zsE_pl w,by omega⟩;refine rd_blk (t:=t) ?_ rfl;rw[wE_eq];have:=Blk.new (wE10 w) t ((zsE w).flatMap EnN.cells).toArray
 rwa [wE10_size]at this
theorem entries_any(w:World):Calls Tryz.prog 20 #[] w (EsQ w):=by
 go_in
 go_wp2;refine bodyPost_ret (v:= .l (some ⟨w.heap.size+1+1+1+1+1+1+1+1+1+1,0,none⟩) 18 18) (by simp[results,Tryz.results20,go_sem]) rfl ?_;exact⟨_,zsE w,rfl,hI (inEs w 33),hI (wE_below w 33)⟩
theorem all_any(w:World):Calls Tryz.prog 9 #[] w (EsQ w):=by
 go_in
 go_wp2;refine bodyPost_ret (v:= .l (some ⟨w.heap.size+1+1+1+1+1+1+1+1+1+1,0,none⟩) 18 18) (by simp[results,Tryz.results9,go_sem]) rfl ?_;exact⟨_,zsE w,rfl,hI (inEs w 25),hI (wE_below w 25)⟩
end Go.Proofs.YtgcjmhjjpbcfmaaGreatDoor
namespace Go.Proofs.YtgcjmhjjpbcfmaaGreatDoor
open Go.RowKit Go.Fl Go.Fl.Lx Go.Fl.Nm Go.Fl.Fm Go.Fl.Rt Go.Fl.Pa
theorem InE.el{w:World}{T:TE}{v:Nd}(h:InE w T v)(i:Nat)(hi:i<v.len):∃b o x,v.A=some ⟨b,o,none⟩∧InE w (T.l.getD i default) x∧ElAt w b (o+i*6) x:=by
 obtain⟨b,o,x,hA,hb,hx,hc⟩:=h.at_ i hi;refine⟨b,o,x,hA,hx,hb,fun j u hu=>?_⟩;have hj:j<6:=(List.getElem?_eq_some_iff.1 hu).1;have:=hc j u hu hj
 rwa [←Nat.add_assoc]at this
theorem str_beq(s s':ByteArray)(c:Bool)(h:(s==s')=c):(s.toList==s'.toList)=c:=by
 rw[ByteArray.toList_eq,ByteArray.toList_eq,←h,Bool.eq_iff_iff,beq_iff_eq,MapKept.bytes_beq];exact⟨fun e=>ByteArray.ext (Array.toList_inj.1 e),fun e=>by rw[e]⟩
theorem str_iff{s s':ByteArray}{c:Bool}(h:(s==s')=c):c=true↔s.data.toList=s'.data.toList:=by
 rw[←h,MapKept.bytes_beq];exact⟨fun e=>by rw[e],fun e=>ByteArray.ext (Array.toList_inj.1 e)⟩
