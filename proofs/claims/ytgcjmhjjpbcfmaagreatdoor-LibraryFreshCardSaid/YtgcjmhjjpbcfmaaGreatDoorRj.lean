import Derived.Test.YtgcjmhjjpbcfmaaGreatDoorLbA
set_option linter.unusedVariables false
set_option linter.unusedSimpArgs false
set_option maxHeartbeats 8000000
set_option maxRecDepth 100000
namespace Go.Fl.Lb
def bs0:List ByteArray:=[(⟨#[120,32,47,32,40,49,32,43,32,120,32,42,32,116,41]⟩:ByteArray)]
def bs1:List ByteArray:=[(⟨#[120,32,43,32,121,32,42,32,116,32,43,32,49,47,50,32,42,32,97,32,42,32,116,94,50]⟩:ByteArray),(⟨#[121,32,43,32,97,32,42,32,116]⟩:ByteArray)]
def bs2:List ByteArray:=[(⟨#[120,32,42,32,40,49,32,43,32,121,32,42,32,116,41]⟩:ByteArray),(⟨#[121,32,47,32,40,49,32,43,32,121,32,42,32,116,41]⟩:ByteArray)]
def bs3:List ByteArray:=[(⟨#[115,32,43,32,116]⟩:ByteArray),(⟨#[120,32,47,32,40,49,32,45,32,120,32,42,32,40,40,115,32,43,32,116,41,94,50,32,45,32,115,94,50,41,41]⟩:ByteArray)]
def bs4:List ByteArray:=[(⟨#[120,32,42,32,101,120,112,40,97,32,42,32,116,41]⟩:ByteArray)]
def bs5:List ByteArray:=[(⟨#[120,32,42,32,99,111,115,40,116,41,32,45,32,121,32,42,32,115,105,110,40,116,41]⟩:ByteArray),(⟨#[120,32,42,32,115,105,110,40,116,41,32,43,32,121,32,42,32,99,111,115,40,116,41]⟩:ByteArray)]
def bs6:List ByteArray:=[(⟨#[120,32,42,32,101,120,112,40,116,41,32,47,32,40,49,32,43,32,120,32,42,32,40,101,120,112,40,116,41,32,45,32,49,41,41]⟩:ByteArray)]
def bs7:List ByteArray:=[(⟨#[40,120,32,42,32,99,111,115,40,116,41,32,43,32,115,105,110,40,116,41,41,32,47,32,40,99,111,115,40,116,41,32,45,32,120,32,42,32,115,105,110,40,116,41,41]⟩:ByteArray)]
def bs8:List ByteArray:=[(⟨#[120,32,42,32,101,120,112,40,116,41]⟩:ByteArray),(⟨#[121,32,42,32,101,120,112,40,120,32,42,32,40,101,120,112,40,116,41,32,45,32,49,41,41]⟩:ByteArray)]
def bs9:List ByteArray:=[(⟨#[115,113,114,116,40,120,94,50,32,43,32,50,32,42,32,116,41]⟩:ByteArray)]
def tyS:TypeId:=9
end Go.Fl.Lb
namespace Go.Proofs.YtgcjmhjjpbcfmaaGreatDoor
open Go.RowKit Go.Fl Go.Fl.Nm Go.Fl.Lb
structure EnN where
  nm:ByteArray
  tx:ByteArray
  A:Option Addr
  n:Nat
  kn:List ByteArray
def EnN.cells(x:EnN):List Value:=[.string x.nm,.string x.tx,.l x.A x.n x.n]
def EnN.pl(x:EnN):En:=⟨x.nm.data.toList,x.tx.data.toList,x.kn.map fun s=>s.data.toList⟩
structure InK (P:Nat→Prop) (w:World) (x:EnN):Prop where
  r:Rd w 1 x.A x.n (x.kn.map Value.string)
  p:∀b o,x.A=some ⟨b,o,none⟩→P b
  f:NF w x.A
theorem InK.below{P:Nat→Prop}{w w':World}{x:EnN}(h:InK P w x)(hb:Below w.heap.size w w'):InK P w' x:=⟨h.r.below hb,h.p,h.f.mv (r:=none) (fun _ _ _ e=>by cases e) ⟨hb.os,hb.tape,hb.output,hb.size,fun k hk _=>hb.block k hk⟩⟩
theorem rd_blk{w:World}{g n m:Nat}{t:TypeId}{xs:List Value}(h:Blk w g t xs.toArray)(hl:xs.length=n*m):Rd w m (some ⟨g,0,none⟩) n xs:=
 ⟨hl,fun _=>⟨g,0,rfl,h.lt,fun j u hu=>by rw[Nat.zero_add];rw[h.cell j];simpa using hu⟩⟩
theorem rd_nil(w:World)(m:Nat):Rd w m none 0 []:=⟨by simp,fun h=>absurd h (Nat.lt_irrefl _)⟩
structure InEs (base:Nat) (w:World) (g:Nat) (zs:List EnN):Prop where
  l:InL 3 EnN.cells (InK (fun b=>base≤b)) w (some ⟨g,0,none⟩) 18 18 zs
  e:zs.map EnN.pl=ents
  g:base≤g
theorem InEs.belowW{base:Nat}{w w':World}{g:Nat}{zs:List EnN}(h:InEs base w g zs)(hb:Below w.heap.size w w'):InEs base w' g zs:=⟨h.l.below (fun z _ hz=>hz.below hb) hb,h.e,h.g⟩
theorem InEs.b9{base:Nat}{w w':World}{g:Nat}{zs:List EnN}(h:InEs base w g zs)(hb:Go.RowKit.Hid (Go.RowKit.Below w.heap.size w w')):Go.RowKit.Hid (InEs base w' g zs):=hI (InEs.belowW h hb.o)
def EsQ(w:World)(e:Ending)(w':World):Prop:=∃(g:Nat) (zs:List EnN),e= .returned (.l (some ⟨g,0,none⟩) 18 18)∧Hid (InEs w.heap.size w' g zs)∧Hid (Below w.heap.size w w')
def zsE(w:World):List EnN:=[⟨⟨#[100,101,99,97,121]⟩,⟨tb0.toArray⟩,some ⟨w.heap.size,0,none⟩,1,bs0⟩,⟨⟨#[102,97,108,108]⟩,⟨tb1.toArray⟩,some ⟨w.heap.size+1,0,none⟩,2,bs1⟩,⟨⟨#[112,114,111,100,117,99,116]⟩,⟨tb2.toArray⟩,some ⟨w.heap.size+1+1,0,none⟩,2,bs2⟩,⟨⟨#[99,108,111,99,107]⟩,⟨tb3.toArray⟩,some ⟨w.heap.size+1+1+1,0,none⟩,2,bs3⟩,⟨⟨#[103,114,111,119,116,104]⟩,⟨tb4.toArray⟩,some ⟨w.heap.size+1+1+1+1,0,none⟩,1,bs4⟩,⟨⟨#[114,111,116,97,116,105,111,110]⟩,⟨tb5.toArray⟩,some ⟨w.heap.size+1+1+1+1+1,0,none⟩,2,bs5⟩,⟨⟨#[108,111,103,105,115,116,105,99]⟩,⟨tb6.toArray⟩,some ⟨w.heap.size+1+1+1+1+1+1,0,none⟩,1,bs6⟩,⟨⟨#[116,97,110,103,101,110,116]⟩,⟨tb7.toArray⟩,some ⟨w.heap.size+1+1+1+1+1+1+1,0,none⟩,1,bs7⟩,⟨⟨#[116,111,119,101,114]⟩,⟨tb8.toArray⟩,some ⟨w.heap.size+1+1+1+1+1+1+1+1,0,none⟩,2,bs8⟩,⟨⟨#[114,111,111,116]⟩,⟨tb9.toArray⟩,some ⟨w.heap.size+1+1+1+1+1+1+1+1+1,0,none⟩,1,bs9⟩,⟨⟨#[118,97,110,100,101,114,112,111,108]⟩,⟨tb10.toArray⟩,none,0,[]⟩,⟨⟨#[108,111,116,107,97]⟩,⟨tb11.toArray⟩,none,0,[]⟩,⟨⟨#[98,114,117,115,115,101,108,97,116,111,114]⟩,⟨tb12.toArray⟩,none,0,[]⟩,⟨⟨#[108,111,114,101,110,122]⟩,⟨tb13.toArray⟩,none,0,[]⟩,⟨⟨#[112,101,110,100,117,108,117,109]⟩,⟨tb14.toArray⟩,none,0,[]⟩,⟨⟨#[99,121,99,108,101]⟩,⟨tb15.toArray⟩,none,0,[]⟩,⟨⟨#[98,97,108,108]⟩,⟨tb16.toArray⟩,none,0,[]⟩,⟨⟨#[116,104,101,114,109,111,115,116,97,116]⟩,⟨tb17.toArray⟩,none,0,[]⟩]
theorem zsE_pl(w:World):(zsE w).map EnN.pl=ents:=rfl
def wE(w:World)(t:TypeId):World:=((((((((((w.alloc (.cells #[.string ⟨#[120,32,47,32,40,49,32,43,32,120,32,42,32,116,41]⟩] tyS)).alloc (.cells #[.string ⟨#[120,32,43,32,121,32,42,32,116,32,43,32,49,47,50,32,42,32,97,32,42,32,116,94,50]⟩,.string ⟨#[121,32,43,32,97,32,42,32,116]⟩] tyS)).alloc (.cells #[.string ⟨#[120,32,42,32,40,49,32,43,32,121,32,42,32,116,41]⟩,.string ⟨#[121,32,47,32,40,49,32,43,32,121,32,42,32,116,41]⟩] tyS)).alloc (.cells #[.string ⟨#[115,32,43,32,116]⟩,.string ⟨#[120,32,47,32,40,49,32,45,32,120,32,42,32,40,40,115,32,43,32,116,41,94,50,32,45,32,115,94,50,41,41]⟩] tyS)).alloc (.cells #[.string ⟨#[120,32,42,32,101,120,112,40,97,32,42,32,116,41]⟩] tyS)).alloc (.cells #[.string ⟨#[120,32,42,32,99,111,115,40,116,41,32,45,32,121,32,42,32,115,105,110,40,116,41]⟩,.string ⟨#[120,32,42,32,115,105,110,40,116,41,32,43,32,121,32,42,32,99,111,115,40,116,41]⟩] tyS)).alloc (.cells #[.string ⟨#[120,32,42,32,101,120,112,40,116,41,32,47,32,40,49,32,43,32,120,32,42,32,40,101,120,112,40,116,41,32,45,32,49,41,41]⟩] tyS)).alloc (.cells #[.string ⟨#[40,120,32,42,32,99,111,115,40,116,41,32,43,32,115,105,110,40,116,41,41,32,47,32,40,99,111,115,40,116,41,32,45,32,120,32,42,32,115,105,110,40,116,41,41]⟩] tyS)).alloc (.cells #[.string ⟨#[120,32,42,32,101,120,112,40,116,41]⟩,.string ⟨#[121,32,42,32,101,120,112,40,120,32,42,32,40,101,120,112,40,116,41,32,45,32,49,41,41]⟩] tyS)).alloc (.cells #[.string ⟨#[115,113,114,116,40,120,94,50,32,43,32,50,32,42,32,116,41]⟩] tyS)).alloc (.cells ((zsE w).flatMap EnN.cells).toArray t)
def wE0(w:World):World:=w
def wE1(w:World):World:=(wE0 w).alloc (.cells #[.string ⟨#[120,32,47,32,40,49,32,43,32,120,32,42,32,116,41]⟩] tyS)
theorem wE1_size(w:World):(wE1 w).heap.size=w.heap.size+1:=by unfold wE1;rw[World.size_alloc,show(wE0 w).heap.size=w.heap.size from rfl]
def wE2(w:World):World:=(wE1 w).alloc (.cells #[.string ⟨#[120,32,43,32,121,32,42,32,116,32,43,32,49,47,50,32,42,32,97,32,42,32,116,94,50]⟩,.string ⟨#[121,32,43,32,97,32,42,32,116]⟩] tyS)
theorem wE2_size(w:World):(wE2 w).heap.size=w.heap.size+1+1:=by unfold wE2;rw[World.size_alloc,wE1_size]
def wE3(w:World):World:=(wE2 w).alloc (.cells #[.string ⟨#[120,32,42,32,40,49,32,43,32,121,32,42,32,116,41]⟩,.string ⟨#[121,32,47,32,40,49,32,43,32,121,32,42,32,116,41]⟩] tyS)
theorem wE3_size(w:World):(wE3 w).heap.size=w.heap.size+1+1+1:=by unfold wE3;rw[World.size_alloc,wE2_size]
def wE4(w:World):World:=(wE3 w).alloc (.cells #[.string ⟨#[115,32,43,32,116]⟩,.string ⟨#[120,32,47,32,40,49,32,45,32,120,32,42,32,40,40,115,32,43,32,116,41,94,50,32,45,32,115,94,50,41,41]⟩] tyS)
theorem wE4_size(w:World):(wE4 w).heap.size=w.heap.size+1+1+1+1:=by unfold wE4;rw[World.size_alloc,wE3_size]
def wE5(w:World):World:=(wE4 w).alloc (.cells #[.string ⟨#[120,32,42,32,101,120,112,40,97,32,42,32,116,41]⟩] tyS)
theorem wE5_size(w:World):(wE5 w).heap.size=w.heap.size+1+1+1+1+1:=by unfold wE5;rw[World.size_alloc,wE4_size]
def wE6(w:World):World:=(wE5 w).alloc (.cells #[.string ⟨#[120,32,42,32,99,111,115,40,116,41,32,45,32,121,32,42,32,115,105,110,40,116,41]⟩,.string ⟨#[120,32,42,32,115,105,110,40,116,41,32,43,32,121,32,42,32,99,111,115,40,116,41]⟩] tyS)
theorem wE6_size(w:World):(wE6 w).heap.size=w.heap.size+1+1+1+1+1+1:=by unfold wE6;rw[World.size_alloc,wE5_size]
def wE7(w:World):World:=(wE6 w).alloc (.cells #[.string ⟨#[120,32,42,32,101,120,112,40,116,41,32,47,32,40,49,32,43,32,120,32,42,32,40,101,120,112,40,116,41,32,45,32,49,41,41]⟩] tyS)
theorem wE7_size(w:World):(wE7 w).heap.size=w.heap.size+1+1+1+1+1+1+1:=by unfold wE7;rw[World.size_alloc,wE6_size]
def wE8(w:World):World:=(wE7 w).alloc (.cells #[.string ⟨#[40,120,32,42,32,99,111,115,40,116,41,32,43,32,115,105,110,40,116,41,41,32,47,32,40,99,111,115,40,116,41,32,45,32,120,32,42,32,115,105,110,40,116,41,41]⟩] tyS)
theorem wE8_size(w:World):(wE8 w).heap.size=w.heap.size+1+1+1+1+1+1+1+1:=by unfold wE8;rw[World.size_alloc,wE7_size]
def wE9(w:World):World:=(wE8 w).alloc (.cells #[.string ⟨#[120,32,42,32,101,120,112,40,116,41]⟩,.string ⟨#[121,32,42,32,101,120,112,40,120,32,42,32,40,101,120,112,40,116,41,32,45,32,49,41,41]⟩] tyS)
theorem wE9_size(w:World):(wE9 w).heap.size=w.heap.size+1+1+1+1+1+1+1+1+1:=by unfold wE9;rw[World.size_alloc,wE8_size]
def wE10(w:World):World:=(wE9 w).alloc (.cells #[.string ⟨#[115,113,114,116,40,120,94,50,32,43,32,50,32,42,32,116,41]⟩] tyS)
theorem wE10_size(w:World):(wE10 w).heap.size=w.heap.size+1+1+1+1+1+1+1+1+1+1:=by unfold wE10;rw[World.size_alloc,wE9_size]
theorem wE_eq(w:World)(t:TypeId):wE w t=(wE10 w).alloc (.cells ((zsE w).flatMap EnN.cells).toArray t):=rfl
theorem blkE0(w:World)(t:TypeId):Blk (wE w t) (w.heap.size) tyS (bs0.map Value.string).toArray:=((((((((((show Blk (wE1 w) (w.heap.size) tyS #[.string ⟨#[120,32,47,32,40,49,32,43,32,120,32,42,32,116,41]⟩]from(by have:=Blk.new (wE0 w) tyS #[.string ⟨#[120,32,47,32,40,49,32,43,32,120,32,42,32,116,41]⟩];rwa [show(wE0 w).heap.size=w.heap.size from rfl]at this)).alloc _).alloc _).alloc _).alloc _).alloc _).alloc _).alloc _).alloc _).alloc _).alloc _
theorem blkE1(w:World)(t:TypeId):Blk (wE w t) (w.heap.size+1) tyS (bs1.map Value.string).toArray:=(((((((((show Blk (wE2 w) (w.heap.size+1) tyS #[.string ⟨#[120,32,43,32,121,32,42,32,116,32,43,32,49,47,50,32,42,32,97,32,42,32,116,94,50]⟩,.string ⟨#[121,32,43,32,97,32,42,32,116]⟩]from(by have:=Blk.new (wE1 w) tyS #[.string ⟨#[120,32,43,32,121,32,42,32,116,32,43,32,49,47,50,32,42,32,97,32,42,32,116,94,50]⟩,.string ⟨#[121,32,43,32,97,32,42,32,116]⟩];rwa [wE1_size]at this)).alloc _).alloc _).alloc _).alloc _).alloc _).alloc _).alloc _).alloc _).alloc _
theorem blkE2(w:World)(t:TypeId):Blk (wE w t) (w.heap.size+1+1) tyS (bs2.map Value.string).toArray:=((((((((show Blk (wE3 w) (w.heap.size+1+1) tyS #[.string ⟨#[120,32,42,32,40,49,32,43,32,121,32,42,32,116,41]⟩,.string ⟨#[121,32,47,32,40,49,32,43,32,121,32,42,32,116,41]⟩]from(by have:=Blk.new (wE2 w) tyS #[.string ⟨#[120,32,42,32,40,49,32,43,32,121,32,42,32,116,41]⟩,.string ⟨#[121,32,47,32,40,49,32,43,32,121,32,42,32,116,41]⟩];rwa [wE2_size]at this)).alloc _).alloc _).alloc _).alloc _).alloc _).alloc _).alloc _).alloc _
theorem blkE3(w:World)(t:TypeId):Blk (wE w t) (w.heap.size+1+1+1) tyS (bs3.map Value.string).toArray:=(((((((show Blk (wE4 w) (w.heap.size+1+1+1) tyS #[.string ⟨#[115,32,43,32,116]⟩,.string ⟨#[120,32,47,32,40,49,32,45,32,120,32,42,32,40,40,115,32,43,32,116,41,94,50,32,45,32,115,94,50,41,41]⟩]from(by have:=Blk.new (wE3 w) tyS #[.string ⟨#[115,32,43,32,116]⟩,.string ⟨#[120,32,47,32,40,49,32,45,32,120,32,42,32,40,40,115,32,43,32,116,41,94,50,32,45,32,115,94,50,41,41]⟩];rwa [wE3_size]at this)).alloc _).alloc _).alloc _).alloc _).alloc _).alloc _).alloc _
theorem blkE4(w:World)(t:TypeId):Blk (wE w t) (w.heap.size+1+1+1+1) tyS (bs4.map Value.string).toArray:=((((((show Blk (wE5 w) (w.heap.size+1+1+1+1) tyS #[.string ⟨#[120,32,42,32,101,120,112,40,97,32,42,32,116,41]⟩]from(by have:=Blk.new (wE4 w) tyS #[.string ⟨#[120,32,42,32,101,120,112,40,97,32,42,32,116,41]⟩];rwa [wE4_size]at this)).alloc _).alloc _).alloc _).alloc _).alloc _).alloc _
theorem blkE5(w:World)(t:TypeId):Blk (wE w t) (w.heap.size+1+1+1+1+1) tyS (bs5.map Value.string).toArray:=(((((show Blk (wE6 w) (w.heap.size+1+1+1+1+1) tyS #[.string ⟨#[120,32,42,32,99,111,115,40,116,41,32,45,32,121,32,42,32,115,105,110,40,116,41]⟩,.string ⟨#[120,32,42,32,115,105,110,40,116,41,32,43,32,121,32,42,32,99,111,115,40,116,41]⟩]from(by have:=Blk.new (wE5 w) tyS #[.string ⟨#[120,32,42,32,99,111,115,40,116,41,32,45,32,121,32,42,32,115,105,110,40,116,41]⟩,.string ⟨#[120,32,42,32,115,105,110,40,116,41,32,43,32,121,32,42,32,99,111,115,40,116,41]⟩];rwa [wE5_size]at this)).alloc _).alloc _).alloc _).alloc _).alloc _
theorem blkE6(w:World)(t:TypeId):Blk (wE w t) (w.heap.size+1+1+1+1+1+1) tyS (bs6.map Value.string).toArray:=((((show Blk (wE7 w) (w.heap.size+1+1+1+1+1+1) tyS #[.string ⟨#[120,32,42,32,101,120,112,40,116,41,32,47,32,40,49,32,43,32,120,32,42,32,40,101,120,112,40,116,41,32,45,32,49,41,41]⟩]from(by have:=Blk.new (wE6 w) tyS #[.string ⟨#[120,32,42,32,101,120,112,40,116,41,32,47,32,40,49,32,43,32,120,32,42,32,40,101,120,112,40,116,41,32,45,32,49,41,41]⟩];rwa [wE6_size]at this)).alloc _).alloc _).alloc _).alloc _
theorem blkE7(w:World)(t:TypeId):Blk (wE w t) (w.heap.size+1+1+1+1+1+1+1) tyS (bs7.map Value.string).toArray:=(((show Blk (wE8 w) (w.heap.size+1+1+1+1+1+1+1) tyS #[.string ⟨#[40,120,32,42,32,99,111,115,40,116,41,32,43,32,115,105,110,40,116,41,41,32,47,32,40,99,111,115,40,116,41,32,45,32,120,32,42,32,115,105,110,40,116,41,41]⟩]from(by have:=Blk.new (wE7 w) tyS #[.string ⟨#[40,120,32,42,32,99,111,115,40,116,41,32,43,32,115,105,110,40,116,41,41,32,47,32,40,99,111,115,40,116,41,32,45,32,120,32,42,32,115,105,110,40,116,41,41]⟩];rwa [wE7_size]at this)).alloc _).alloc _).alloc _
theorem blkE8(w:World)(t:TypeId):Blk (wE w t) (w.heap.size+1+1+1+1+1+1+1+1) tyS (bs8.map Value.string).toArray:=((show Blk (wE9 w) (w.heap.size+1+1+1+1+1+1+1+1) tyS #[.string ⟨#[120,32,42,32,101,120,112,40,116,41]⟩,.string ⟨#[121,32,42,32,101,120,112,40,120,32,42,32,40,101,120,112,40,116,41,32,45,32,49,41,41]⟩]from(by have:=Blk.new (wE8 w) tyS #[.string ⟨#[120,32,42,32,101,120,112,40,116,41]⟩,.string ⟨#[121,32,42,32,101,120,112,40,120,32,42,32,40,101,120,112,40,116,41,32,45,32,49,41,41]⟩];rwa [wE8_size]at this)).alloc _).alloc _
theorem blkE9(w:World)(t:TypeId):Blk (wE w t) (w.heap.size+1+1+1+1+1+1+1+1+1) tyS (bs9.map Value.string).toArray:=(show Blk (wE10 w) (w.heap.size+1+1+1+1+1+1+1+1+1) tyS #[.string ⟨#[115,113,114,116,40,120,94,50,32,43,32,50,32,42,32,116,41]⟩]from(by have:=Blk.new (wE9 w) tyS #[.string ⟨#[115,113,114,116,40,120,94,50,32,43,32,50,32,42,32,116,41]⟩];rwa [wE9_size]at this)).alloc _
theorem wE_below(w:World)(t:TypeId):Below w.heap.size w (wE w t):=by
 have h:∀(a:World) (o:Obj),Below w.heap.size w a→Below w.heap.size w (a.alloc o):=fun a o h=>h.trans ((below_box a o).mono h.size)
 rw[wE_eq];exact h _ _ (h _ _ (h _ _ (h _ _ (h _ _ (h _ _ (h _ _ (h _ _ (h _ _ (h _ _ (h _ _ (Below.refl _ _)))))))))))
theorem zsE_in(w:World)(t:TypeId):∀z∈zsE w,InK (fun b=>w.heap.size≤b) (wE w t) z:=by
 intro z hz;unfold zsE at hz;simp only[List.mem_cons,List.not_mem_nil,or_false]at hz;obtain rfl | rfl | rfl | rfl | rfl | rfl | rfl | rfl | rfl | rfl | rfl | rfl | rfl | rfl | rfl | rfl | rfl | rfl:=hz
 ·
  exact⟨rd_blk (blkE0 w t) rfl,fun b o h=>by injection h with h;injection h with h;subst h;omega,NF.blk (blkE0 w t)⟩
 ·
  exact⟨rd_blk (blkE1 w t) rfl,fun b o h=>by injection h with h;injection h with h;subst h;omega,NF.blk (blkE1 w t)⟩
 ·
  exact⟨rd_blk (blkE2 w t) rfl,fun b o h=>by injection h with h;injection h with h;subst h;omega,NF.blk (blkE2 w t)⟩
 ·
  exact⟨rd_blk (blkE3 w t) rfl,fun b o h=>by injection h with h;injection h with h;subst h;omega,NF.blk (blkE3 w t)⟩
 ·
  exact⟨rd_blk (blkE4 w t) rfl,fun b o h=>by injection h with h;injection h with h;subst h;omega,NF.blk (blkE4 w t)⟩
 ·
  exact⟨rd_blk (blkE5 w t) rfl,fun b o h=>by injection h with h;injection h with h;subst h;omega,NF.blk (blkE5 w t)⟩
 ·
  exact⟨rd_blk (blkE6 w t) rfl,fun b o h=>by injection h with h;injection h with h;subst h;omega,NF.blk (blkE6 w t)⟩
 ·
  exact⟨rd_blk (blkE7 w t) rfl,fun b o h=>by injection h with h;injection h with h;subst h;omega,NF.blk (blkE7 w t)⟩
 ·
  exact⟨rd_blk (blkE8 w t) rfl,fun b o h=>by injection h with h;injection h with h;subst h;omega,NF.blk (blkE8 w t)⟩
 ·
  exact⟨rd_blk (blkE9 w t) rfl,fun b o h=>by injection h with h;injection h with h;subst h;omega,NF.blk (blkE9 w t)⟩
 ·
  exact⟨rd_nil _ _,(fun b o h=>by cases h),NF.nil _⟩
 ·
  exact⟨rd_nil _ _,(fun b o h=>by cases h),NF.nil _⟩
 ·
  exact⟨rd_nil _ _,(fun b o h=>by cases h),NF.nil _⟩
 ·
  exact⟨rd_nil _ _,(fun b o h=>by cases h),NF.nil _⟩
 ·
  exact⟨rd_nil _ _,(fun b o h=>by cases h),NF.nil _⟩
 ·
  exact⟨rd_nil _ _,(fun b o h=>by cases h),NF.nil _⟩
 ·
  exact⟨rd_nil _ _,(fun b o h=>by cases h),NF.nil _⟩
 exact⟨rd_nil _ _,(fun b o h=>by cases h),NF.nil _⟩
theorem inEs(w:World)(t:TypeId):InEs w.heap.size (wE w t) (w.heap.size+1+1+1+1+1+1+1+1+1+1) (zsE w):=by
 refine⟨⟨rfl,Nat.le_refl _,by unfold maxLen;omega,?_,zsE_in w t⟩,zsE_pl w,by omega⟩;refine rd_blk (t:=t) ?_ rfl;rw[wE_eq];have:=Blk.new (wE10 w) t ((zsE w).flatMap EnN.cells).toArray
 rwa [wE10_size]at this
theorem entries_any(w:World):Calls Tryz.prog 20 #[] w (EsQ w):=by
 go_in
 go_wp2;refine bodyPost_ret (v:= .l (some ⟨w.heap.size+1+1+1+1+1+1+1+1+1+1,0,none⟩) 18 18) (by simp[results,Tryz.results20,go_sem]) rfl ?_;exact⟨_,zsE w,rfl,hI (inEs w 33),hI (wE_below w 33)⟩
theorem all_any(w:World):Calls Tryz.prog 9 #[] w (EsQ w):=by
 go_in
 go_wp2;refine bodyPost_ret (v:= .l (some ⟨w.heap.size+1+1+1+1+1+1+1+1+1+1,0,none⟩) 18 18) (by simp[results,Tryz.results9,go_sem]) rfl ?_;exact⟨_,zsE w,rfl,hI (inEs w 25),hI (wE_below w 25)⟩
end Go.Proofs.YtgcjmhjjpbcfmaaGreatDoor
namespace Go.Proofs.YtgcjmhjjpbcfmaaGreatDoor
open Go.RowKit Go.Fl Go.Fl.Lx Go.Fl.Nm Go.Fl.Fm Go.Fl.Rt Go.Fl.Pa
def EqR{α:Type}(a b:α)(w:World)(e:Ending)(w':World):Prop:=∃r:Bool,e= .returned (.b r)∧Hid (r=true↔a=b)∧Hid (Below w.heap.size w w')
theorem te_ext{T U:TE}(h:T.h=U.h)(l:T.l=U.l):T=U:=by
 obtain⟨a,b⟩:=T;obtain⟨c,d⟩:=U;simp only[TE.h,TE.l]at h l;rw[h,l]
theorem size_lt{T:TE}{i:Nat}(h:i<T.l.length):SizeOf.sizeOf (T.l.getD i default)<SizeOf.sizeOf T:=by
 obtain⟨a,b⟩:=T;simp only[TE.l]at h ⊢;rw[List.getD_eq_getElem?_getD,List.getElem?_eq_getElem h,Option.getD_some];have:=List.sizeOf_lt_of_mem (List.getElem_mem h);simp only[TE.mk.sizeOf_spec]
 omega
theorem list_getD_ext{l m:List TE}(h:l.length=m.length)(hj:∀j,j<l.length→l.getD j default=m.getD j default):l=m:=by
 apply List.ext_getElem h
 intro i h1 h2;have:=hj i h1;rw[List.getD_eq_getElem?_getD,List.getD_eq_getElem?_getD,List.getElem?_eq_getElem h1,List.getElem?_eq_getElem h2]at this;exact this
theorem InE.el{w:World}{T:TE}{v:Nd}(h:InE w T v)(i:Nat)(hi:i<v.len):∃b o x,v.A=some ⟨b,o,none⟩∧InE w (T.l.getD i default) x∧ElAt w b (o+i*6) x:=by
 obtain⟨b,o,x,hA,hb,hx,hc⟩:=h.at_ i hi;refine⟨b,o,x,hA,hx,hb,fun j u hu=>?_⟩;have hj:j<6:=(List.getElem?_eq_some_iff.1 hu).1;have:=hc j u hu hj
 rwa [←Nat.add_assoc]at this
theorem eqf_tree(T U:TE)(v u:Nd)(w:World)(hT:InE w T v)(hU:InE w U u)
 (ih:∀i,i<v.len→∀x y w',InE w' (T.l.getD i default) x→InE w' (U.l.getD i default) y→Calls Tryz.prog 28 #[x.val,y.val] w' (EqR (T.l.getD i default) (U.l.getD i default) w')):
 Calls Tryz.prog 62 #[.l v.A v.len v.cap,.l u.A u.len u.cap,.func (.func 28) #[] #[]] w (EqR T.l U.l w):=by
 have Y:=hI hT;have Z:=hI hU;have I:=hI ih;have p:=hI hT.length;have q:=hI hU.length;have s:=hT.caps;unfold maxLen at s;clear hT hU ih;obtain⟨vh,A,len,cap⟩:=v;obtain⟨uh,A2,z,ar⟩:=u;simp only at p q I s ⊢;obtain⟨au,av⟩:=s
 by_cases hll:len=z
 case neg=>
  have d1:((len:Int)!=(z:Int))=true:=(by rw[bne_iff_ne];omega);have d2:(len !=z)=true:=(by rw[bne_iff_ne];exact hll)
  go_in
  go_wp2;go_ret;exact⟨_,rfl,hI ⟨fun h=>(by cases h),fun h=>absurd (by rw[←p.o,←q.o,h]) hll⟩,hI (Below.refl _ _)⟩
 subst hll;have d1:((len:Int)!=(len:Int))=false:=(by simp)
 go_in
 go_wp2
 go_loopg [17] len (fun gk d wr=>∃i:Nat,d= .i (i:Nat)∧i≤len∧gk=len-i∧Hid (∀j,j<i→T.l.getD j default=U.l.getD j default)∧Hid (Below w.heap.size w wr))
 case atStart=>exact⟨0,rfl,Nat.zero_le _,rfl,hI (fun j hj=>absurd hj (Nat.not_lt_zero j)),hI (Below.refl _ _)⟩
 obtain⟨i,rfl,hi,rfl,J,m⟩:=hrel;have ab:=m.o.size
 by_cases hlt:i<len
 ·
  obtain⟨b,o,x,L,M,c⟩:=(Y.o.belowW m.o).el i hlt;obtain⟨b2,o2,y,N,O,P⟩:=(Z.o.belowW m.o).el i hlt;simp only at L N;subst L N;have d3:decide ((i:Int)<(len:Int))=true:=dT;have d4:decide (i<len)=true:=decide_eq_true hlt;have a0:0≤(i:Int)∧(i:Int)<(len:Int):=(by omega);have ae:=hI M;have af:=hI O;have EY:=hI P;have B:=c.c0;have C:=c.c1;have D:=c.c2;have E:=c.c3;have F:=c.c4;have G:=c.c5;clear M O P c;go_upto_region 6 with(fail);obtain⟨w1,Q,R,E1⟩:=aX wr 57 #[.i x.h.kind,.i x.h.n,.i x.h.d,.string x.h.name,.i x.h.k,.l x.A x.len x.cap];rw[←Q];clear Q B C D E F G;have g:=EY.o.b9 R;have B:=g.o.c0;have C:=g.o.c1;have D:=g.o.c2;have E:=g.o.c3;have F:=g.o.c4;have G:=g.o.c5;go_upto_region 7 with(fail);obtain⟨w2,S,V,E2⟩:=aX w1 57 #[.i y.h.kind,.i y.h.n,.i y.h.d,.string y.h.name,.i y.h.k,.l y.A y.len y.cap];rw[←S];clear S B C D E F G;have H:=R.o.t V;have al:=hI (m.o.trans (H.o.mono ab));have a:=(E1.o.belowW V.o).cell;obtain⟨b0,_,b1,_,a3,_,b3,_,b4,_,b5,_⟩:=E2.o.all6;go_wp2_with fail;refine(I.o i hlt x y w2 (ae.o.belowW H.o) (af.o.belowW H.o)).mono ?_;rintro e w3 ⟨r,rfl,W,am⟩;have X:=al.o.t am
  cases r with
  | false=>
   go_wp2;go_ret;refine⟨_,rfl,hI ⟨fun h=>(by cases h),fun h=>?_⟩,X⟩;have:=W.o.2 (by rw[h])
   cases this
  | true=>
   have an:=hI (W.o.1 rfl);have e1:IntKind.i64.wrap ((i:Int)+1)=(i:Int)+1:=(by rw[IntKind.wrap_i64];omega);go_wp2
   go_roundg (len-(i+1))
   case measure=>omega
   case rel=>exact⟨i+1,by go_num,by omega,rfl,hI (fun j hj=>by
    by_cases hji:j=i
    ·
     rw[hji];exact an.o
    exact J.o j (by omega)),X⟩
 have d3:decide ((i:Int)<(len:Int))=false:=dF;have d4:decide (i<len)=false:=decide_eq_false hlt;go_wp2;go_ret;exact⟨_,rfl,hI ⟨fun _=>list_getD_ext (p.o.trans q.o.symm) (fun j hj=>J.o j (by rw[p.o]at hj;omega)),fun _=>rfl⟩,m⟩
theorem equal_any:∀(z:Nat) (T:TE),SizeOf.sizeOf T≤z→∀(U:TE) (v u:Nd) (w:World),InE w T v→InE w U u→Calls Tryz.prog 28 #[v.val,u.val] w (EqR T U w):=by
 intro z
 induction z with
 | zero=>
  intro T hz
  exfalso
  obtain⟨a,b⟩:=T;simp only[TE.mk.sizeOf_spec]at hz
  omega
 | succ z ih=>
  intro T hz U v u w hT hU
  have H:=hI (fun(w':World) (hb:Below w.heap.size w w')=>eqf_tree T U v u w' (hT.belowW hb) (hU.belowW hb) (fun i hi x y w2 hx hy=>ih _ (by
   have:=size_lt (T:=T) (i:=i) (by rw[hT.length];exact hi)
   omega) _ x y w2 hx hy))
  have C:T.h=v.h:=hT.hd;have D:U.h=u.h:=hU.hd;have o:=hI (show T=U↔v.h=u.h∧T.l=U.l from⟨fun e=>by rw[←C,←D,e];exact⟨rfl,rfl⟩,fun e=>te_ext (by rw[C,D,e.1]) e.2⟩);clear hT hU hz ih C D;obtain⟨⟨Q,n,d,s,k⟩,A,ab,ac⟩:=v;obtain⟨⟨R,S,V,I,W⟩,A',ae,af⟩:=u;simp only[Nd.val]at H o ⊢
  go_in
  go_upto_region 1 with(fail);generalize hw2:World.alloc _ _=w2;obtain⟨g,X,Y⟩:=gn2 hw2;clear hw2;obtain⟨a0,_,a1,_,a2,_,a3,_,a4,_,a5,_⟩:=X.o.all6;obtain⟨b0,_,b1,_,b2,_,b3,_,b4,_,b5,_⟩:=Y.o.all6;have au:=run_eq_rat
  obtain⟨J,L⟩:∃c,(Q==R)=c:=⟨_,rfl⟩
  obtain⟨M,N⟩:∃c,(n==S&&d==V)=c:=⟨_,rfl⟩
  obtain⟨E,F⟩:∃c,(s==I)=c:=⟨_,rfl⟩
  obtain⟨O,P⟩:∃c,(k==W)=c:=⟨_,rfl⟩
  have av:(s.toList==I.toList)=E:=by rw[ByteArray.toList_eq,ByteArray.toList_eq,←F,Bool.eq_iff_iff,beq_iff_eq,MapKept.bytes_beq];exact⟨fun e=>ByteArray.ext (Array.toList_inj.1 e),fun e=>by rw[e]⟩
  have j:=hI (show T=U↔(J=true∧M=true∧E=true∧O=true)∧T.l=U.l from⟨fun e=>by
   obtain⟨p,m⟩:=o.o.1 e;injection p with q B G e6 e7;refine⟨⟨?_,?_,?_,?_⟩,m⟩
   ·
    rw[←L,q];simp
   ·
    rw[←N,B,G];simp
   ·
    rw[←F,e6,MapKept.bytes_beq]
   ·
    rw[←P,e7];simp,fun e=>by
   obtain⟨⟨p,m,q,B⟩,G⟩:=e;rw[←L,beq_iff_eq]at p;rw[←N,Bool.and_eq_true,beq_iff_eq,beq_iff_eq]at m;rw[←F,MapKept.bytes_beq]at q;rw[←P,beq_iff_eq]at B
   exact o.o.2 ⟨by rw[p,m.1,m.2,q,B],G⟩⟩)
  clear o
  cases J with
  | false=>
   go_wp2;go_ret
   exact⟨_,rfl,hI ⟨fun h=>(by cases h),fun h=>by have:=(j.o.1 h).1.1;cases this⟩,g⟩
  | true=>
   cases M with
   | false=>
    go_wp2;go_ret
    exact⟨_,rfl,hI ⟨fun h=>(by cases h),fun h=>by have:=(j.o.1 h).1.2.1;cases this⟩,g⟩
   | true=>
    cases E with
    | false=>
     go_wp2;go_ret
     exact⟨_,rfl,hI ⟨fun h=>(by cases h),fun h=>by have:=(j.o.1 h).1.2.2.1;cases this⟩,g⟩
    | true=>
     cases O with
     | false=>
      go_wp2;go_ret
      exact⟨_,rfl,hI ⟨fun h=>(by cases h),fun h=>by have:=(j.o.1 h).1.2.2.2;cases this⟩,g⟩
     | true=>
      go_wp2_with fail;refine(H.o w2 g.o).mono ?_;rintro e w3 ⟨r,rfl,Z,aa⟩;go_wp2;go_ret;exact⟨r,rfl,hI (Z.o.trans ⟨fun h=>j.o.2 ⟨⟨by trivial,by trivial,by trivial,by trivial⟩,h⟩,fun h=>(j.o.1 h).2⟩),g.o.t aa⟩
theorem str_beq(s s':ByteArray)(c:Bool)(h:(s==s')=c):(s.toList==s'.toList)=c:=by
 rw[ByteArray.toList_eq,ByteArray.toList_eq,←h,Bool.eq_iff_iff,beq_iff_eq,MapKept.bytes_beq];exact⟨fun e=>ByteArray.ext (Array.toList_inj.1 e),fun e=>by rw[e]⟩
theorem str_iff{s s':ByteArray}{c:Bool}(h:(s==s')=c):c=true↔s.data.toList=s'.data.toList:=by
 rw[←h,MapKept.bytes_beq];exact⟨fun e=>by rw[e],fun e=>ByteArray.ext (Array.toList_inj.1 e)⟩
theorem run_neq_dcl(w:World)(x y:DcN):
 (binOp .neq 54 (.agg #[.string x.s,.i x.a,.i x.b,.i x.c,.i x.d]) (.agg #[.string y.s,.i y.a,.i y.b,.i y.c,.i y.d])).run Tryz.prog w= .ok (.b (!((x.s==y.s)&&((x.a==y.a)&&((x.b==y.b)&&((x.c==y.c)&&(x.d==y.d))))))) w:=by
 have h3:=str_beq x.s y.s _ rfl
 simp[go_sem]
 cases hs:(x.s==y.s)<;>rw[hs]at h3<;>by_cases h4:x.a=y.a<;>by_cases h5:x.b=y.b<;>by_cases h6:x.c=y.c<;>by_cases h7:x.d=y.d<;>simp_all
