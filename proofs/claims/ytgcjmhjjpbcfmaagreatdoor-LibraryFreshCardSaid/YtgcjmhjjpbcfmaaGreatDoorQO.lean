import Derived.Test.YtgcjmhjjpbcfmaaGreatDoorQJ
import Derived.Test.YtgcjmhjjpbcfmaaGreatDoorRows
import Derived.Lib.SmallJoins
import Derived.LaidMore
import Derived.LaidSub
import Derived.Stop.LaidErr
import Derived.Stop.Joined
import Derived.Test.YtgcjmhjjpbcfmaaGreatDoorRd
import Derived.Test.YtgcjmhjjpbcfmaaGreatDoorLiG
set_option linter.unusedVariables false
set_option maxHeartbeats 4000000
set_option maxRecDepth 100000
namespace Go.Proofs.YtgcjmhjjpbcfmaaGreatDoor
open Go.RowKit Go.Fl Go.Fl.Fm Go.ChangeShapes Go.WideShapes
section
variable {H:Type} {enc:TypeId×Value→H} {w:World} {base:Nat} {spare:Nat→Bool} {held:Bool}
instance:Inhabited Nd:=⟨⟨⟨0,0,0,ByteArray.empty,0⟩,none,0,0⟩⟩
end
end Go.Proofs.YtgcjmhjjpbcfmaaGreatDoor
namespace Go.Proofs.YtgcjmhjjpbcfmaaGreatDoor
open Go.RowKit Go.Fl Go.Fl.Nm Go.Fl.Pa
open Go.ChangeShapes Go.WideShapes Go.ChangeAt Go.MapKept Go.WideMaps
theorem own:ownKnob Tryz.prog.godebug=none:=by kernel_rfl
def laid8:List (String×DataW Unit):=[("math/bits.deBruijn32tab",Rows.laid_math_bits_deBruijn32tab),("math/bits.deBruijn64tab",Rows.laid_math_bits_deBruijn64tab),("internal/strconv.uint64pow10",Rows.laid_internal_strconv_uint64pow10),("unicode/utf8.acceptRanges",Rows.laid_unicode_utf8_acceptRanges),("strconv.ErrRange",Rows.laid_strconv_ErrRange),("strconv.ErrSyntax",Rows.laid_strconv_ErrSyntax),("flowpipe/parse.functions",Rows.laid_flowpipe_parse_functions),("unicode/utf8.first",Rows.laid_unicode_utf8_first)]
noncomputable def laidWorld8 (os:Os):World:=
  let w0:=World.doorLaid Tryz.prog 400 os
  {w0 with heap:=w0.heap.modify 6 fun
      | .cells _ t frozen=> .cells (Go.Pinned.utf8FirstZ.map fun z:Nat=>Value.int .u8 (z:Int)).toArray t frozen
      | o=>o}
theorem door_met8(os:Os)(args:Array Value):laidMetH Tryz.prog laid8 ((laidWorld8 os).forCall (fun _ _=>0) ⟨#[],args,[]⟩).memory:=
 laidMetH_of_parts3 (fuel:=8) (laidMet_of_run' 8 (by kernel_rfl) (by kernel_rfl)) (by kernel_rfl) (by kernel_rfl)
theorem gT10:(Tryz.prog.globals[8]?).map (·.type)=some 343:=by kernel_rfl
theorem gT32:(Tryz.prog.globals[1]?).map (·.type)=some 265:=by kernel_rfl
theorem gT64:(Tryz.prog.globals[9]?).map (·.type)=some 346:=by kernel_rfl
theorem gTER:(Tryz.prog.globals[5]?).map (·.type)=some 249:=by kernel_rfl
theorem star: "*" ++ "errors.errorString" = "*errors.errorString" :=by decide
theorem rowES(u:TypeId)(h:Tryz.prog.typeName? 3 u=some "*errors.errorString"):u=333:=
 typeName_ptr_named (nm:= "errors.errorString") (by rw[star];kernel_rfl) (by kernel_rfl) (by decide) u (by rw[star];exact h)
theorem rx_of_laid8{W:World}(h:laidMetH Tryz.prog laid8 W):RX W:=by
 rw[MakeChecks.laidMetH_plain _ _ _ (by kernel_rfl)]at h;refine⟨⟨?_,?_,?_⟩,?_⟩
 ·
  exact Lib.tabIs_of_head g10 gT10 Tryz.underlying343 Tryz.underlying114 (by kernel_rfl) (by kernel_rfl) h.tail.tail
 ·
  exact Lib.tabIs_of_head g32 gT32 Tryz.underlying265 Tryz.underlying5 (by kernel_rfl) (by kernel_rfl) h
 ·
  exact Lib.tabIs_of_head g64 gT64 Tryz.underlying346 Tryz.underlying5 (by kernel_rfl) (by kernel_rfl) h.tail
 obtain⟨a,s,hv,_⟩:=laid_sentinel h.tail.tail.tail.tail gER gTER Tryz.underlying249 rowES Tryz.underlying333 Tryz.underlying335 rfl rfl Tryz.underlying9 (by kernel_rfl) (by kernel_rfl);exact⟨_,_,hv⟩
theorem gFX:Tryz.prog.globalNamed "flowpipe/parse.functions" =some 2:=by kernel_rfl
theorem gTFX:(Tryz.prog.globals[2]?).map (·.type)=some 184:=by kernel_rfl
theorem at_funs(l:List UInt8):(Rows.laid_flowpipe_parse_functions (H:=Unit)).atKey (.string l) (.lit (.int .i64 0))= .lit (.int .i64 (funK l)):=by
 unfold Rows.laid_flowpipe_parse_functions DataW.atKey funK;simp only[List.find?_cons,Lit.sameKey]
 by_cases h1:l=[99,111,115]
 ·
  subst h1;rfl
 by_cases h2:l=[101,120,112]
 ·
  subst h2;rfl
 by_cases h3:l=[108,111,103]
 ·
  subst h3;rfl
 by_cases h4:l=[115,105,110]
 ·
  subst h4;rfl
 by_cases h5:l=[115,113,114,116]
 ·
  subst h5;rfl
 have e:∀a:List UInt8,¬l=a→(a==l)=false:=fun a h=>beq_eq_false_iff_ne.2 (Ne.symm h)
 rw[e _ h1,e _ h2,e _ h3,e _ h4,e _ h5];simp only[List.find?_nil];rw[if_neg h2,if_neg h3,if_neg h4,if_neg h1,if_neg h5]
theorem fx_of_laid8{W:World}(h:laidMetH Tryz.prog laid8 W):FX W:=by
 rw[MakeChecks.laidMetH_plain _ _ _ (by kernel_rfl)]at h;obtain⟨k,⟨m,o,p,q,r,u,c,d,f,i,_⟩,_,_⟩:=h.tail.tail.tail.tail.tail.tail;obtain rfl:=Option.some.inj (gFX.symm.trans c);obtain rfl:=Option.some.inj (gTFX.symm.trans d)
 rcases WideMaps.open_map Tryz.underlying184 Tryz.underlying3 i with⟨_,hx⟩ | ⟨bm,es,clock,hcs,hb,_,F,hx⟩
 ·
  simp[Rows.laid_flowpipe_parse_functions]at hx
 simp only[Prod.mk.injEq]at hx
 have a:W.cell? ⟨2,0,none⟩=some (.map (some bm)):=by
  have:=World.var?_cell c f 0;rw[Array.eq_one_of_toList hcs]at this
  simpa using this
 refine⟨bm,es,clock,⟨a,?_,hb⟩,?_⟩
 ·
  unfold World.cell? at a
  apply Decidable.byContradiction
  intro hge;rw[Array.getElem?_eq_none (by simpa using hge)]at a
  simp at a
 intro w l hl hbw;have zero:(zeroValue 3).run Tryz.prog w= .ok (.i 0) w:=(by kernel_rfl);obtain⟨n,j,_,b⟩:=WideMaps.fit_lookup (string_law Tryz.underlying9) Tryz.underlying184 zero hbw F (keyOf_string_mk (s:=⟨l.toArray⟩) Tryz.underlying9 (by show l.toArray.size≤maxLen;rw[List.size_toArray];exact Nat.le_trans hl (by decide)));rw[←hx.1]at b;have:=at_funs l;rw[show(⟨l.toArray⟩:ByteArray).data.toList=l from rfl,this]at b
 cases b
 exact j
end Go.Proofs.YtgcjmhjjpbcfmaaGreatDoor
namespace Go.Proofs.YtgcjmhjjpbcfmaaGreatDoor
open Go.RowKit Go.Fl Go.ChangeShapes Go.WideShapes
section
variable {H:Type} {enc:TypeId×Value→H} {w:World} {base:Nat} {spare:Nat→Bool} {held:Bool}
theorem rows_at{Z:Type}{m:Nat}(cells:Z→List Value)(hlen:∀z,(cells z).length=m)(l:List Z)(k:Nat)(v:Z)(h:l[k]? =some v)(j:Nat)(hj:j<m):(l.flatMap cells)[k*m+j]? =(cells v)[j]? :=by
 induction l generalizing k with
 | nil=>cases h
 | cons x l ih=>
  rw[List.flatMap_cons]
  cases k with
  | zero=>
   have:x=v:=by simpa using h
   subst this
   rw[Nat.zero_mul,Nat.zero_add,List.getElem?_append_left (by rw[hlen];exact hj)]
  | succ k=>
   have h':l[k]? =some v:=(by simpa using h);rw[List.getElem?_append_right (by rw[hlen,Nat.succ_mul];omega),hlen,show(k+1)*m+j-m=k*m+j by rw[Nat.succ_mul];omega];exact ih k h'
end
end Go.Proofs.YtgcjmhjjpbcfmaaGreatDoor
namespace Go.Proofs.YtgcjmhjjpbcfmaaGreatDoor
open Go.RowKit Go.Fl Go.Fl.Nm Go.Fl.Dy Go.Fl.Rt Go.Fl.Fm
structure At (w:World) (b off:Nat) (cs:List Value):Prop where
  lt:b<w.heap.size
  c:∀(j:Nat) (u:Value),cs[j]? =some u→w.cell? ⟨b,off+j,none⟩=some u
theorem At.belowW{w w':World}{b off:Nat}{cs:List Value}(h:At w b off cs)(hb:Below w.heap.size w w'):At w' b off cs:=
 ⟨Nat.lt_of_lt_of_le h.lt hb.size,fun j u hu=>(hb.cell (p:=⟨b,off+j,none⟩) h.lt).trans (h.c j u hu)⟩
theorem At.b9{w w':World}{b off:Nat}{cs:List Value}(h:At w b off cs)(hb:Go.RowKit.Hid (Go.RowKit.Below w.heap.size w w')):Go.RowKit.Hid (At w' b off cs):=hI (At.belowW h hb.o)
def NF(w:World)(A:Option Addr):Prop:=∀b o,A=some ⟨b,o,none⟩→b<w.heap.size∧∀i,w.frozen? ⟨b,i,none⟩=false
theorem NF.nil(w:World):NF w none:=fun _ _ h=>by cases h
theorem NF.blk{w:World}{g:Nat}{t:TypeId}{cs:Array Value}(h:Blk w g t cs):NF w (some ⟨g,0,none⟩):=fun b o e=>by
 injection e with e;injection e with e;subst e;exact⟨h.lt,h.frozen⟩
theorem NF.mv{w w':World}{A:Option Addr}{r:Option Nat}(h:NF w A)(hr:∀b o,A=some ⟨b,o,none⟩→some b≠r)(hg:w.grownBy w' r):NF w' A:=fun b o e=>⟨Nat.lt_of_lt_of_le (h b o e).1 hg.size,fun i=>by
 have h2:=(h b o e).2 i
 unfold World.frozen? at h2 ⊢
 rw[hg.block b (h b o e).1 (hr b o e)]
 exact h2⟩
structure InL {Z:Type} (m:Nat) (cells:Z→List Value) (Pw:World→Z→Prop) (w:World) (A:Option Addr) (len cap:Nat) (zs:List Z):Prop where
  hl:zs.length=len
  hc:len≤cap
  hm:cap≤maxLen
  hr:Rd w m A len (zs.flatMap cells)
  hi:∀z∈zs,Pw w z
theorem InL.below{Z:Type}{m:Nat}{cells:Z→List Value}{Pw:World→Z→Prop}{w w':World}{A:Option Addr}{len cap:Nat}{zs:List Z}(h:InL m cells Pw w A len cap zs)(hP:∀z∈zs,Pw w z→Pw w' z)(hb:Below w.heap.size w w'):InL m cells Pw w' A len cap zs:=
 ⟨h.hl,h.hc,h.hm,h.hr.below hb,fun z hz=>hP z hz (h.hi z hz)⟩
theorem InL.at_{Z:Type}{m:Nat}{cells:Z→List Value}{Pw:World→Z→Prop}{w:World}{A:Option Addr}{len cap:Nat}{zs:List Z}(hlen:∀z,(cells z).length=m)(h:InL m cells Pw w A len cap zs)(j:Nat)(hj:j<len):
 ∃b o x,A=some ⟨b,o,none⟩∧zs[j]? =some x∧Pw w x∧At w b (o+j*m) (cells x):=by
 obtain⟨b,o,hA,hb,hcell⟩:=h.hr.at_ (by omega)
 obtain⟨x,hx⟩:∃x,zs[j]? =some x:=⟨_,List.getElem?_eq_getElem (by rw[h.hl];exact hj)⟩
 refine⟨b,o,x,hA,hx,h.hi x (List.mem_of_getElem? hx),hb,fun i u hu=>?_⟩
 have hi:i<m:=by
  have:=(List.getElem?_eq_some_iff.1 hu).1
  rwa [hlen]at this
 have:=hcell _ _ ((rows_at cells hlen zs j x hx i hi).trans hu)
 rwa [←Nat.add_assoc]at this
theorem take_snocA{α:Type}(l:List α)(j:Nat)(x:α)(h:l[j]? =some x):l.take (j+1)=l.take j++[x]:=by rw[List.take_add_one,h];rfl
theorem mem_takeA{α:Type}{l:List α}{j:Nat}{x:α}(h:l[j]? =some x):x∈l:=List.mem_of_getElem? h
structure DcN where
  s:ByteArray
  a:Int
  b:Int
  c:Int
  d:Int
@[reducible] def DcN.val (x:DcN):Value:= .agg #[.string x.s,.int .i64 x.a,.int .i64 x.b,.int .i64 x.c,.int .i64 x.d]
def DcN.cells(x:DcN):List Value:=[.string x.s,.i x.a,.i x.b,.i x.c,.i x.d]
structure InD (w:World) (x:DcN):Prop where
  r:R4 x.a x.b x.c x.d
  hs:x.s.size≤maxLen
theorem InD.belowW{w w':World}{x:DcN}(h:InD w x)(hb:Below w.heap.size w w'):InD w' x:=⟨h.r,h.hs⟩
theorem InD.b9{w w':World}{x:DcN}(h:InD w x)(hb:Go.RowKit.Hid (Go.RowKit.Below w.heap.size w w')):Go.RowKit.Hid (InD w' x):=hI (InD.belowW h hb.o)
def DcN.ok(x:DcN):Bool:=nameP x.s.data.toList&&(vB x.a x.b&&vB x.c x.d)
def DcN.txt(x:DcN):List UInt8:=x.s.data.toList++([32,105,110,32]++(rangeT x.a x.b x.c x.d++[59,10]))
theorem DcN.cells_at{w:World}{b off:Nat}{x:DcN}(h:At w b off x.cells):b<w.heap.size∧w.cell? ⟨b,off,none⟩=some (.string x.s)∧w.cell? ⟨b,off+1,none⟩=some (.i x.a)∧w.cell? ⟨b,off+2,none⟩=some (.i x.b)∧w.cell? ⟨b,off+3,none⟩=some (.i x.c)∧w.cell? ⟨b,off+4,none⟩=some (.i x.d):=
 ⟨h.lt,h.c 0 _ rfl,h.c 1 _ rfl,h.c 2 _ rfl,h.c 3 _ rfl,h.c 4 _ rfl⟩
structure EqN where
  s:ByteArray
  v:Nd
  T:TE
@[reducible] def EqN.val (x:EqN):Value:= .agg #[.string x.s,.int .i64 x.v.h.kind,.int .i64 x.v.h.n,.int .i64 x.v.h.d,.string x.v.h.name,.int .i64 x.v.h.k,.slice x.v.A x.v.len x.v.cap]
def EqN.cells(x:EqN):List Value:=[.string x.s,.i x.v.h.kind,.i x.v.h.n,.i x.v.h.d,.string x.v.h.name,.i x.v.h.k,.l x.v.A x.v.len x.v.cap]
structure InQ (w:World) (x:EqN):Prop where
  e:InE w x.T x.v
  hs:x.s.size≤maxLen
theorem InQ.belowW{w w':World}{x:EqN}(h:InQ w x)(hb:Below w.heap.size w w'):InQ w' x:=⟨h.e.go hb,h.hs⟩
theorem InQ.b9{w w':World}{x:EqN}(h:InQ w x)(hb:Go.RowKit.Hid (Go.RowKit.Below w.heap.size w w')):Go.RowKit.Hid (InQ w' x):=hI (InQ.belowW h hb.o)
def EqN.ok(x:EqN):Bool:=nameP x.s.data.toList&&okE x.T
def EqN.rt(x:EqN):List UInt8:=x.s.data.toList++([32,61,32]++txt 20 x.T)
def EqN.ft(x:EqN):List UInt8:=[9]++(x.s.data.toList++([39,32,61,32]++(txt 20 x.T++[59,10])))
theorem EqN.cells_at{w:World}{b off:Nat}{x:EqN}(h:At w b off x.cells):b<w.heap.size∧w.cell? ⟨b,off,none⟩=some (.string x.s)∧w.cell? ⟨b,off+1,none⟩=some (.i x.v.h.kind)∧w.cell? ⟨b,off+2,none⟩=some (.i x.v.h.n)∧w.cell? ⟨b,off+3,none⟩=some (.i x.v.h.d)∧w.cell? ⟨b,off+4,none⟩=some (.string x.v.h.name)∧w.cell? ⟨b,off+5,none⟩=some (.i x.v.h.k)∧w.cell? ⟨b,off+6,none⟩=some (.l x.v.A x.v.len x.v.cap):=
 ⟨h.lt,h.c 0 _ rfl,h.c 1 _ rfl,h.c 2 _ rfl,h.c 3 _ rfl,h.c 4 _ rfl,h.c 5 _ rfl,h.c 6 _ rfl⟩
structure EdN where
  v:Nd
  T:TE
  dir:Int
  tn:ByteArray
  A:Option Addr
  len:Nat
  cap:Nat
  rs:List EqN
@[reducible] def EdN.val (x:EdN):Value:= .agg #[.int .i64 x.v.h.kind,.int .i64 x.v.h.n,.int .i64 x.v.h.d,.string x.v.h.name,.int .i64 x.v.h.k,.slice x.v.A x.v.len x.v.cap,.int .i64 x.dir,.string x.tn,.slice x.A x.len x.cap]
def EdN.cells(x:EdN):List Value:=[.i x.v.h.kind,.i x.v.h.n,.i x.v.h.d,.string x.v.h.name,.i x.v.h.k,.l x.v.A x.v.len x.v.cap,.i x.dir,.string x.tn,.l x.A x.len x.cap]
structure InG (w:World) (x:EdN):Prop where
  e:InE w x.T x.v
  d1: -9223372036854775808≤x.dir
  d2:x.dir≤9223372036854775807
  hs:x.tn.size≤maxLen
  hr:InL 7 EqN.cells InQ w x.A x.len x.cap x.rs
theorem InG.belowW{w w':World}{x:EdN}(h:InG w x)(hb:Below w.heap.size w w'):InG w' x:=⟨h.e.go hb,h.d1,h.d2,h.hs,h.hr.below (fun z _ hz=>hz.belowW hb) hb⟩
theorem InG.b9{w w':World}{x:EdN}(h:InG w x)(hb:Go.RowKit.Hid (Go.RowKit.Below w.heap.size w w')):Go.RowKit.Hid (InG w' x):=hI (InG.belowW h hb.o)
def EdN.dirB(x:EdN):Bool:=(x.dir==1)||(x.dir==2)
def EdN.ok(x:EdN):Bool:=okE x.T&&(x.dirB&&(nameP x.tn.data.toList&&(decide ((x.len:Int)≤4)&&x.rs.all EqN.ok)))
def resT:List EqN→List UInt8
  | []=>[]
  | x::l=>[32,119,105,116,104,32]++x.rt++l.flatMap (fun y=>[44,32]++y.rt)
def EdN.wd(x:EdN):List UInt8:=if x.dir=2 then [32,102,97,108,108,115,32,103,111,116,111,32]else [32,114,105,115,101,115,32,103,111,116,111,32]
def EdN.txt(x:EdN):List UInt8:=[9,119,104,101,110,32]++(Go.Fl.Fm.txt 20 x.T++(x.wd++(x.tn.data.toList++(resT x.rs++[59,10]))))
theorem EdN.cells_at{w:World}{b off:Nat}{x:EdN}(h:At w b off x.cells):b<w.heap.size∧w.cell? ⟨b,off,none⟩=some (.i x.v.h.kind)∧w.cell? ⟨b,off+1,none⟩=some (.i x.v.h.n)∧w.cell? ⟨b,off+2,none⟩=some (.i x.v.h.d)∧w.cell? ⟨b,off+3,none⟩=some (.string x.v.h.name)∧w.cell? ⟨b,off+4,none⟩=some (.i x.v.h.k)∧w.cell? ⟨b,off+5,none⟩=some (.l x.v.A x.v.len x.v.cap)∧w.cell? ⟨b,off+6,none⟩=some (.i x.dir)∧w.cell? ⟨b,off+7,none⟩=some (.string x.tn)∧w.cell? ⟨b,off+8,none⟩=some (.l x.A x.len x.cap):=
 ⟨h.lt,h.c 0 _ rfl,h.c 1 _ rfl,h.c 2 _ rfl,h.c 3 _ rfl,h.c 4 _ rfl,h.c 5 _ rfl,h.c 6 _ rfl,h.c 7 _ rfl,h.c 8 _ rfl⟩
structure MdN where
  s:ByteArray
  A:Option Addr
  n:Nat
  c:Nat
  fl:List EqN
  B:Option Addr
  m:Nat
  d:Nat
  ed:List EdN
@[reducible] def MdN.val (x:MdN):Value:= .agg #[.string x.s,.slice x.A x.n x.c,.slice x.B x.m x.d]
def MdN.cells(x:MdN):List Value:=[.string x.s,.l x.A x.n x.c,.l x.B x.m x.d]
structure InM (w:World) (x:MdN):Prop where
  hs:x.s.size≤maxLen
  hf:InL 7 EqN.cells InQ w x.A x.n x.c x.fl
  he:InL 9 EdN.cells InG w x.B x.m x.d x.ed
theorem InM.belowW{w w':World}{x:MdN}(h:InM w x)(hb:Below w.heap.size w w'):InM w' x:=⟨h.hs,h.hf.below (fun z _ hz=>hz.belowW hb) hb,h.he.below (fun z _ hz=>hz.belowW hb) hb⟩
theorem InM.b9{w w':World}{x:MdN}(h:InM w x)(hb:Go.RowKit.Hid (Go.RowKit.Below w.heap.size w w')):Go.RowKit.Hid (InM w' x):=hI (InM.belowW h hb.o)
def MdN.ok(x:MdN):Bool:=nameP x.s.data.toList&&(decide ((x.n:Int)≤4)&&(decide ((x.m:Int)≤4)&&(x.fl.all EqN.ok&&x.ed.all EdN.ok)))
def MdN.hd(x:MdN):List UInt8:=[109,111,100,101,32]++(x.s.data.toList++[32,123,10])
def MdN.txt(x:MdN):List UInt8:=x.hd++(x.fl.flatMap EqN.ft++(x.ed.flatMap EdN.txt++[125,10]))
theorem MdN.cells_at{w:World}{b off:Nat}{x:MdN}(h:At w b off x.cells):b<w.heap.size∧w.cell? ⟨b,off,none⟩=some (.string x.s)∧w.cell? ⟨b,off+1,none⟩=some (.l x.A x.n x.c)∧w.cell? ⟨b,off+2,none⟩=some (.l x.B x.m x.d):=
 ⟨h.lt,h.c 0 _ rfl,h.c 1 _ rfl,h.c 2 _ rfl⟩
structure PbN where
  A:Option Addr
  n:Nat
  c:Nat
  st:List DcN
  B:Option Addr
  m:Nat
  d:Nat
  pa:List DcN
  C:Option Addr
  k:Nat
  e:Nat
  ms:List MdN
  t:Int
  u:Int
@[reducible] def PbN.val (x:PbN):Value:= .agg #[.slice x.A x.n x.c,.slice x.B x.m x.d,.slice x.C x.k x.e,.int .i64 x.t,.int .i64 x.u]
def PbN.cells(x:PbN):List Value:=[.l x.A x.n x.c,.l x.B x.m x.d,.l x.C x.k x.e,.i x.t,.i x.u]
structure InP (w:World) (x:PbN):Prop where
  hs:InL 5 DcN.cells InD w x.A x.n x.c x.st
  hp:InL 5 DcN.cells InD w x.B x.m x.d x.pa
  hm:InL 3 MdN.cells InM w x.C x.k x.e x.ms
  t1: -9223372036854775808≤x.t
  t2:x.t≤9223372036854775807
  u1: -9223372036854775808≤x.u
  u2:x.u≤9223372036854775807
theorem InP.belowW{w w':World}{x:PbN}(h:InP w x)(hb:Below w.heap.size w w'):InP w' x:=
 ⟨h.hs.below (fun z _ hz=>hz.belowW hb) hb,h.hp.below (fun z _ hz=>hz.belowW hb) hb,h.hm.below (fun z _ hz=>hz.belowW hb) hb,h.t1,h.t2,h.u1,h.u2⟩
theorem InP.b9{w w':World}{x:PbN}(h:InP w x)(hb:Go.RowKit.Hid (Go.RowKit.Below w.heap.size w w')):Go.RowKit.Hid (InP w' x):=hI (InP.belowW h hb.o)
def PbN.sz(x:PbN):Bool:=decide (1≤x.n)&&decide (x.n≤4)&&decide (x.m≤4)&&decide (1≤x.k)&&decide (x.k≤8)
def PbN.ok(x:PbN):Bool:=x.sz&&(x.st.all DcN.ok&&(x.pa.all DcN.ok&&(x.ms.all MdN.ok&&vB x.t x.u)))
def stT(x:DcN):List UInt8:=[115,116,97,116,101,32]++x.txt
def paT(x:DcN):List UInt8:=[112,97,114,97,109,32]++x.txt
def PbN.txt(x:PbN):List UInt8:=x.st.flatMap stT++(x.pa.flatMap paT++(x.ms.flatMap MdN.txt++([116,105,109,101,32]++(textR x.t x.u++[59,10]))))
theorem InD.len{w:World}{A:Option Addr}{len cap:Nat}{zs:List DcN}(h:InL 5 DcN.cells InD w A len cap zs)(j:Nat)(hj:j<len):∃b o x,A=some ⟨b,o,none⟩∧zs[j]? =some x∧InD w x∧At w b (o+j*5) x.cells:=InL.at_ (m:=5) (cells:=DcN.cells) (fun _=>rfl) h j hj
theorem InQ.len{w:World}{A:Option Addr}{len cap:Nat}{zs:List EqN}(h:InL 7 EqN.cells InQ w A len cap zs)(j:Nat)(hj:j<len):∃b o x,A=some ⟨b,o,none⟩∧zs[j]? =some x∧InQ w x∧At w b (o+j*7) x.cells:=InL.at_ (m:=7) (cells:=EqN.cells) (fun _=>rfl) h j hj
theorem InG.len{w:World}{A:Option Addr}{len cap:Nat}{zs:List EdN}(h:InL 9 EdN.cells InG w A len cap zs)(j:Nat)(hj:j<len):∃b o x,A=some ⟨b,o,none⟩∧zs[j]? =some x∧InG w x∧At w b (o+j*9) x.cells:=InL.at_ (m:=9) (cells:=EdN.cells) (fun _=>rfl) h j hj
theorem InM.len{w:World}{A:Option Addr}{len cap:Nat}{zs:List MdN}(h:InL 3 MdN.cells InM w A len cap zs)(j:Nat)(hj:j<len):∃b o x,A=some ⟨b,o,none⟩∧zs[j]? =some x∧InM w x∧At w b (o+j*3) x.cells:=InL.at_ (m:=3) (cells:=MdN.cells) (fun _=>rfl) h j hj
theorem InD.list{w w':World}{A:Option Addr}{len cap:Nat}{zs:List DcN}(h:InL 5 DcN.cells InD w A len cap zs)(hb:Below w.heap.size w w'):InL 5 DcN.cells InD w' A len cap zs:=h.below (fun z _ hz=>hz.belowW hb) hb
theorem InQ.list{w w':World}{A:Option Addr}{len cap:Nat}{zs:List EqN}(h:InL 7 EqN.cells InQ w A len cap zs)(hb:Below w.heap.size w w'):InL 7 EqN.cells InQ w' A len cap zs:=h.below (fun z _ hz=>hz.belowW hb) hb
theorem InG.list{w w':World}{A:Option Addr}{len cap:Nat}{zs:List EdN}(h:InL 9 EdN.cells InG w A len cap zs)(hb:Below w.heap.size w w'):InL 9 EdN.cells InG w' A len cap zs:=h.below (fun z _ hz=>hz.belowW hb) hb
theorem InM.list{w w':World}{A:Option Addr}{len cap:Nat}{zs:List MdN}(h:InL 3 MdN.cells InM w A len cap zs)(hb:Below w.heap.size w w'):InL 3 MdN.cells InM w' A len cap zs:=h.below (fun z _ hz=>hz.belowW hb) hb
end Go.Proofs.YtgcjmhjjpbcfmaaGreatDoor
namespace Go.Proofs.YtgcjmhjjpbcfmaaGreatDoor
open Go.RowKit Go.Fl Go.Fl.Nm Go.Fl.Dy Go.Fl.Lb
def IvN.cl(v:IvN):List Value:=[.b v.x.lo.neg,.l v.A v.n v.c,.i v.x.lo.e,.b v.x.hi.neg,.l v.B v.m v.d,.i v.x.hi.e,.b v.x.all]
structure EnvM (w:World) (G:Nat) (l:List (ByteArray×IvN)):Prop where
  h:∃(es:Array MapEntry) (clock:Nat),w.heap[G]? =some (.map es clock)∧es.size=l.length∧∀(i:Nat) (e:MapEntry),es[i]? =some e→∃p,l[i]? =some p∧e.key= .string p.1∧e.val= .agg #[.bool p.2.x.lo.neg,.slice p.2.A p.2.n p.2.c,.int .i64 p.2.x.lo.e,.bool p.2.x.hi.neg,.slice p.2.B p.2.m p.2.d,.int .i64 p.2.x.hi.e,.bool p.2.x.all]
  v:∀p∈l,InI w p.2
  d:(l.map Prod.fst).Nodup
theorem EnvM.lt{w:World}{G:Nat}{l:List (ByteArray×IvN)}(h:EnvM w G l):G<w.heap.size:=by
 obtain⟨es,clock,h1,_⟩:=h.h;exact(Array.getElem?_eq_some_iff.1 h1).1
theorem EnvM.belowW{w w':World}{G:Nat}{l:List (ByteArray×IvN)}(h:EnvM w G l)(hb:Below w.heap.size w w'):EnvM w' G l:=by
 have hlt:=h.lt;obtain⟨es,clock,h1,h2⟩:=h.h;exact⟨⟨es,clock,(hb.block G hlt).trans h1,h2⟩,fun p hp=>(h.v p hp).belowW hb,h.d⟩
theorem EnvM.b9{w w':World}{G:Nat}{l:List (ByteArray×IvN)}(h:EnvM w G l)(hb:Go.RowKit.Hid (Go.RowKit.Below w.heap.size w w')):Go.RowKit.Hid (EnvM w' G l):=hI (EnvM.belowW h hb.o)
theorem nodup_at{α:Type}:∀{l:List α} {i j:Nat} {x:α},l.Nodup→l[i]? =some x→l[j]? =some x→i=j
 | [],i,j,x,_,h,_=>by cases h
 | y::l,0,0,x,_,_,_=>rfl
 | y::l,0,j+1,x,hd,h1,h2=>by
  have e:y=x:=Option.some.inj h1;subst e
  exact absurd (List.mem_of_getElem? (show l[j]? =some y from h2)) (List.nodup_cons.1 hd).1
 | y::l,i+1,0,x,hd,h1,h2=>by
  have e:y=x:=Option.some.inj h2;subst e
  exact absurd (List.mem_of_getElem? (show l[i]? =some y from h1)) (List.nodup_cons.1 hd).1
 | y::l,i+1,j+1,x,hd,h1,h2=>congrArg (· +1) (nodup_at (List.nodup_cons.1 hd).2 h1 h2)
theorem EnvM.look{w:World}{G:Nat}{l:List (ByteArray×IvN)}(h:EnvM w G l){i:Nat}{p:ByteArray×IvN}(hp:l[i]? =some p):
 Sem.run Tryz.prog (Instr.lookup 146 (.map (some G)) (.string p.1) true) w= .ok (.tuple #[.agg #[.b p.2.x.lo.neg,.l p.2.A p.2.n p.2.c,.i p.2.x.lo.e,.b p.2.x.hi.neg,.l p.2.B p.2.m p.2.d,.i p.2.x.hi.e,.b p.2.x.all],.b true]) w:=by
 obtain⟨a,M,s,u,b⟩:=h.h;have v:=Tryz.underlying146;have k:=Tryz.underlying9;have o:MapKept.IsKey .string (.string p.1):=trivial
 have y:∀x∈a.toList,MapKept.IsKey .string x.key:=by
  intro x hx;obtain⟨j,z,e⟩:=List.getElem_of_mem hx;obtain⟨q,_,C,_⟩:=b j x (by rw[←Array.getElem?_toList,List.getElem?_eq_getElem z,e]);rw[C]
  trivial
 have D:i<a.size:=(by rw[u];exact(List.getElem?_eq_some_iff.1 hp).1);obtain⟨q,E,F,N⟩:=b i a[i] (Array.getElem?_eq_getElem D);have f:p=q:=Option.some.inj (hp.symm.trans E);subst f
 have g:∃j,Instr.findNow .string (.string p.1) a.toList 0=some (some (j,.agg #[.b p.2.x.lo.neg,.l p.2.A p.2.n p.2.c,.i p.2.x.lo.e,.b p.2.x.hi.neg,.l p.2.B p.2.m p.2.d,.i p.2.x.hi.e,.b p.2.x.all])):=by
  rcases MapKept.findNow_spec o a.toList 0 y with⟨g1,g2⟩ | ⟨j,e,g1,g2,g3⟩
  ·
   exact absurd F (g2 a[i] (by simp))
  obtain⟨q,r,H,I⟩:=b j e (by rw[←Array.getElem?_toList];exact g2);have J:q.1=p.1:=(by rw[H]at g3;injection g3);have L:j=i:=nodup_at (x:=p.1) h.d (by rw[List.getElem?_map,r];simp[J]) (by rw[List.getElem?_map,hp];rfl);subst L;have f:p=q:=Option.some.inj (hp.symm.trans r);subst f;exact⟨0+j,g1.trans (by rw[I])⟩
 obtain⟨j,g⟩:=g
 simp[Instr.lookup,run_underlying v,MapKept.run_getObj_map s,MapKept.run_checkKey k o,MapKept.run_findKey k g,Result.andThen]
theorem run_makeMap_n(n:Nat)(w:World):(Instr.makeMap 146 (some (.i n))).run Tryz.prog w= .ok (.map (some w.heap.size)) (w.alloc (.map #[] 0)):=by
 have hm:=Tryz.underlying146
 simp[Instr.makeMap,run_underlying hm,go_sem]
theorem sl_map{w w':World}{A:Option Addr}{n c G:Nat}{l:List Nat}{es:Array MapEntry}{clock:Nat}(h:Sl w A n c l)(hm:w.heap[G]? =some (.map es clock))(hg:w.grownBy w' (some G)):Sl w' A n c l:=by
 by_cases hn:n=0
 ·
  exact⟨h.1,h.2.1,h.2.2.1,h.2.2.2.1,h.2.2.2.2.1,⟨h.rd.1,fun q=>absurd q (by omega)⟩⟩
 refine h.grown hg (fun b o hA e=>?_);obtain⟨b',o',x,hA',hlt,hx,hB,hc⟩:=h.at_ (i:=0) (by omega);rw[hA]at hA';injection hA' with hA';injection hA' with e1 e2;subst e1 e e2
 unfold World.cell? at hc
 simp[hm]at hc
theorem EnvM.push{w:World}{G:Nat}{l:List (ByteArray×IvN)}(h:EnvM w G l)(p:ByteArray×IvN)(hv:InI w p.2)(hn:p.1∉l.map Prod.fst):
 ∃w',Sem.run Tryz.prog (Instr.mapUpdate 146 (.map (some G)) (.string p.1) (.agg #[.b p.2.x.lo.neg,.l p.2.A p.2.n p.2.c,.i p.2.x.lo.e,.b p.2.x.hi.neg,.l p.2.B p.2.m p.2.d,.i p.2.x.hi.e,.b p.2.x.all])) w= .ok () w'∧w.grownBy w' (some G)∧EnvM w' G (l++[p]):=by
 obtain⟨g,f,r,y,s⟩:=h.h;have D:=Tryz.underlying146;have z:=Tryz.underlying9;have hk:MapKept.IsKey .string (.string p.1):=trivial
 have E:∀x∈g.toList,MapKept.IsKey .string x.key:=by
  intro x hx;obtain⟨j,F,e⟩:=List.getElem_of_mem hx;obtain⟨q,_,hq,_⟩:=s j x (by rw[←Array.getElem?_toList,List.getElem?_eq_getElem F,e]);rw[hq]
  trivial
 have H:Instr.findNow .string (.string p.1) g.toList 0=some none:=by
  rcases MapKept.findNow_spec hk g.toList 0 E with⟨g1,_⟩ | ⟨j,e,g1,g2,g3⟩
  ·
   exact g1
  obtain⟨q,I,J,P⟩:=s j e (by rw[←Array.getElem?_toList];exact g2);have L:q.1=p.1:=(by rw[J]at g3;injection g3);exact absurd (by rw[←L];exact List.mem_map_of_mem (List.mem_of_getElem? I)) hn
 obtain⟨M,N⟩:=MapKept.heap_set (o':=Obj.map (g.push {key:= .string p.1,val:= .agg #[.b p.2.x.lo.neg,.l p.2.A p.2.n p.2.c,.i p.2.x.lo.e,.b p.2.x.hi.neg,.l p.2.B p.2.m p.2.d,.i p.2.x.hi.e,.b p.2.x.all],born:=f}) (f+1)) r
 have u:w.grownBy {w with heap:=w.heap.setIfInBounds G (.map (g.push {key:= .string p.1,val:= .agg #[.b p.2.x.lo.neg,.l p.2.A p.2.n p.2.c,.i p.2.x.lo.e,.b p.2.x.hi.neg,.l p.2.B p.2.m p.2.d,.i p.2.x.hi.e,.b p.2.x.all],born:=f}) (f+1))} (some G):=
  ⟨rfl,rfl,rfl,by simp,fun k hk hne=>N k (fun e=>hne (by rw[e]))⟩
 have C:∀v:IvN,InI w v→InI {w with heap:=w.heap.setIfInBounds G (.map (g.push {key:= .string p.1,val:= .agg #[.b p.2.x.lo.neg,.l p.2.A p.2.n p.2.c,.i p.2.x.lo.e,.b p.2.x.hi.neg,.l p.2.B p.2.m p.2.d,.i p.2.x.hi.e,.b p.2.x.all],born:=f}) (f+1))} v:=fun v hv=>⟨sl_map hv.l r u,sl_map hv.h r u,hv.o⟩
 refine⟨{w with heap:=w.heap.setIfInBounds G (.map (g.push {key:= .string p.1,val:= .agg #[.b p.2.x.lo.neg,.l p.2.A p.2.n p.2.c,.i p.2.x.lo.e,.b p.2.x.hi.neg,.l p.2.B p.2.m p.2.d,.i p.2.x.hi.e,.b p.2.x.all],born:=f}) (f+1))},?_,u,⟨⟨_,_,M,by simp[y],?_⟩,?_,?_⟩⟩
 ·
  simp[Instr.mapUpdate,run_underlying D,MapKept.run_getObj_map r,MapKept.run_checkKey z hk,MapKept.run_findKey z H,MapKept.run_setObj_map _ r,Result.andThen]
 ·
  intro i e he;rw[Array.getElem?_push]at he
  split at he
  ·
   rename_i hi
   injection he with he;subst he;exact⟨p,by rw[hi,y];simp,rfl,rfl⟩
  obtain⟨q,hq,O⟩:=s i e he;exact⟨q,by rw[List.getElem?_append_left (List.getElem?_eq_some_iff.1 hq).1];exact hq,O⟩
 ·
  intro q hq
  rcases List.mem_append.1 hq with hq | hq
  ·
   exact C _ (h.v q hq)
  rw[List.mem_singleton.1 hq];exact C _ hv
 rw[List.map_append];exact List.nodup_append.2 ⟨h.d,by simp,fun a ha b hb e=>hn (by simp at hb;rw[←hb,←e];exact ha)⟩
theorem env_any(ns:List ByteArray)(vs:List IvN)(A B:Option Addr)(n c d:Nat)(w:World)(hn:Rd w 1 A n (ns.map Value.string))(hc:n≤c)(hc2:c≤maxLen)(hv:InL 7 IvN.cl InI w B n d vs)(h200:n≤200)(hd:ns.Nodup):
 Calls Tryz.prog 74 #[.l A n c,.l B n d] w (fun e w'=>∃G:Nat,e= .returned (.tuple #[.map (some G),.b true])∧Hid (EnvM w' G (ns.zip vs))∧Hid (Below w.heap.size w w')):=by
 have Q:=hI hn;have R:=hI hv;have S:=hI hd;have D:=hI (show ns.length=n by have:=hn.1;simpa using this);have F:=hI hv.hl;have d1:((n:Int)!=(n:Int))=false:=(by simp);have d2:decide (200<n)=false:=dF;have al:decide ((200:Int)<n)=false:=dF
 have T:=fun w'=>run_makeMap_n n w'
 clear hn hv hd hc hc2
 go_in
 go_wp2_with fail;obtain⟨H,u⟩:=eX (w.alloc (.map #[] 0));have U:=hI (show Below w.heap.size w H by rw[u];exact below_box _ _);have V:=hI (show EnvM H w.heap.size []from⟨⟨#[],0,by rw[u];exact heap_alloc_new w _,rfl,fun i e h=>by cases h⟩,fun p hp=>absurd hp (by simp),by simp⟩);rw[←u];clear u T
 go_loopg [24] n (fun k i wr=>∃j:Nat,i= .i j∧j≤n∧k=n-j∧Hid (EnvM wr w.heap.size ((ns.zip vs).take j))∧Hid (Below w.heap.size w wr))
 case atStart=>exact⟨0,rfl,by omega,by omega,by rw[List.take_zero];exact V,U⟩
 obtain⟨j,rfl,hj,rfl,I,r⟩:=hrel
 by_cases hlt:j<n
 ·
  obtain⟨b,o,W,an,J⟩:=(Q.o.below r.o).at_ (by omega);obtain⟨g,l,x,X,L,M,a⟩:=InL.at_ (cells:=IvN.cl) (fun z=>rfl) (R.o.below (fun z _ hz=>hz.belowW r.o) r.o) j hlt;subst W X
  obtain⟨s,y⟩:∃s,ns[j]? =some s:=⟨ns[j]'(by rw[D.o];exact hlt),List.getElem?_eq_getElem _⟩
  have cn:wr.cell? ⟨b,o+j,none⟩=some (.string s):=J j _ (by rw[List.getElem?_map,y];rfl);have ap:=a.lt;obtain⟨c0,c1,c2,c3,c4,c5,c6⟩:wr.cell? ⟨g,l+j*7,none⟩=some (.b x.x.lo.neg)∧wr.cell? ⟨g,l+j*7+1,none⟩=some (.l x.A x.n x.c)∧wr.cell? ⟨g,l+j*7+2,none⟩=some (.i x.x.lo.e)∧wr.cell? ⟨g,l+j*7+3,none⟩=some (.b x.x.hi.neg)∧wr.cell? ⟨g,l+j*7+4,none⟩=some (.l x.B x.m x.d)∧wr.cell? ⟨g,l+j*7+5,none⟩=some (.i x.x.hi.e)∧wr.cell? ⟨g,l+j*7+6,none⟩=some (.b x.x.all):=⟨a.c 0 _ rfl,a.c 1 _ rfl,a.c 2 _ rfl,a.c 3 _ rfl,a.c 4 _ rfl,a.c 5 _ rfl,a.c 6 _ rfl⟩
  obtain⟨Y,Z,N,O⟩:=I.o.push (s,x) M (by
   intro hm;obtain⟨q,hq,e⟩:=List.mem_map.1 hm;obtain⟨i,hi,P⟩:=List.getElem_of_mem hq;rw[List.length_take]at hi;rw[List.getElem_take]at P
   have E:ns[i]? =some s:=by
    have:(ns.zip vs)[i]? =some q:=by rw[←P];exact List.getElem?_eq_getElem _
    obtain⟨g1,g2⟩:=List.getElem?_zip_eq_some.1 this;rw[g1,e]
   have:=nodup_at S.o E y
   omega)
  have C:=hI (show EnvM Y w.heap.size ((ns.zip vs).take (j+1))by rw[take_snocA _ _ _ (show(ns.zip vs)[j]? =some (s,x)from List.getElem?_zip_eq_some.2 ⟨y,L⟩)];exact O);have ad:=hI (below_grow9 r.o N (Nat.le_refl _));have n1:decide ((j:Int)<n)=true:=dT;have a0:decide (j<n)=true:=decide_eq_true hlt;have a1:0≤(j:Int)∧(j:Int)<n:=(by omega);have a2:n≤200:=h200;clear J y L M a N O;simp only at Z;go_wp2
  go_roundg (n-(j+1))
  case measure=>omega
  case rel=>exact⟨j+1,by go_num,by omega,rfl,C,ad⟩
 have af:j=n:=(by omega);subst af;have n1:decide ((j:Int)<j)=false:=dF;have C:=hI (show EnvM wr w.heap.size (ns.zip vs)by have:=I.o;rwa [List.take_of_length_le (by rw[List.length_zip,D.o,F.o];omega)]at this);obtain⟨es,a3,E,h2,_⟩:=C.o.h;have ai:es.size=j:=(by rw[h2,List.length_zip,D.o,F.o];omega)
 have a4:Sem.run Tryz.prog (Builtin.len_ #[146] 3 #[.map (some w.heap.size)]) wr= .ok (.i (j:Int)) wr:=by
  simp[Builtin.len_,run_underlying (Tryz.underlying146),MapKept.run_getObj_map E,ai,go_sem]
 have d9:((j:Int)==(j:Int))=true:=(by simp);go_wp2;refine bodyPost_ret (v:= .tuple #[.map (some w.heap.size),.b true]) (by simp[results,Tryz.results74,go_sem]) rfl ?_;exact⟨_,rfl,C,r⟩
