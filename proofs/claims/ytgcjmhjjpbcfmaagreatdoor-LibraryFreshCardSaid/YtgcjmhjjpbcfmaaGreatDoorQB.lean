import Derived.Test.YtgcjmhjjpbcfmaaGreatDoorQA
import Derived.Test.YtgcjmhjjpbcfmaaGreatDoorProg
import Derived.Deep.RegionHeld3
import Derived.Deep.AppendLies
import Derived.Deep.LoopGhost
import Derived.Deep.DrawnRows
import Derived.StillTailTactics
set_option maxHeartbeats 800000
set_option maxRecDepth 100000
namespace Go.Fl.Lx
open Go.Fl
def inNum(c:UInt8):Bool:=c==46||isDigit c
theorem split_point(l:List UInt8)(h:46∈l):∃b,l=l.takeWhile (· !=46)++46::b∧l.dropWhile (· !=46)=46::b∧46∉l.takeWhile (· !=46):=by
 rcases indexByte_spec l 46 with⟨h1,_⟩ | ⟨_,i,_,h3,h4,h5,h6⟩
 ·
  exact absurd h h1
 refine⟨l.drop (i+1),?_,by rw[h5,h6],?_⟩
 ·
  have e:=List.takeWhile_append_dropWhile (p:=(· !=46)) (l:=l);rw[h5,h6]at e;exact e.symm
 intro hm;have:=List.all_takeWhile (p:=(· !=46)) (l:=l);rw[List.all_eq_true]at this;have:=this 46 hm
 simp at this
theorem numN_bad(l:List UInt8)(c:UInt8)(hc:c∈l)(h:inNum c=false):numN l=0:=by
 unfold inNum at h;simp only[Bool.or_eq_false_iff,beq_eq_false_iff_ne]at h
 by_cases hp:46∈l
 ·
  obtain⟨b,e,hd,_⟩:=split_point l hp;unfold numN;rw[hd];simp only;rw[if_neg];intro hh;rw[Bool.and_eq_true]at hh;unfold digitsP at hh;simp only[Bool.and_eq_true,List.all_eq_true]at hh;rw[e]at hc
  rcases List.mem_append.1 hc with h1 | h1
  ·
   have:=hh.1.1 c h1;rw[h.2]at this;cases this
  rcases List.mem_cons.1 h1 with h2 | h2
  ·
   exact h.1 h2
  have:=hh.2.1 c h2;rw[h.2]at this;cases this
 unfold numN;rw[(takeWhile_not_mem _ _ hp).2];simp only;rw[if_neg];intro hh;unfold digitsP at hh;simp only[Bool.and_eq_true,List.all_eq_true]at hh;have:=hh.1 c hc;rw[h.2]at this;cases this
theorem numN_word(l:List UInt8)(h:wordP l=true):numN l=0:=by
 cases l with
 | nil=>exact absurd h (by decide)
 | cons c l=>
  have hl:isLetter c=true:=(by simp[wordP,headLetter]at h;exact h.1);have:=u8_all (p:=fun c=> !isLetter c|| !inNum c) (by decide+kernel) c;rw[hl]at this;exact numN_bad _ c (by simp) (by simpa using this)
theorem kindOf_ref(l:List UInt8):
 kindOf l=if wordP l then(if 20<l.length then(0,5)else(1,0))else if numN l=0 then(0,3)else if 18<numN l then(0,5)else(2,0):=by
 unfold kindOf
 by_cases hw:wordP l=true
 ·
  have:=numN_word l hw
  simp[hw,this]
 simp only[hw]
 by_cases h0:numN l=0
 ·
  simp[h0]
 by_cases h18:18<numN l
 ·
  simp[h18,h0]
 simp[h18,h0]
end Go.Fl.Lx
namespace Go.Proofs.YtgcjmhjjpbcfmaaGreatDoor
open Go.RowKit Go.Fl Go.Fl.Lx
end Go.Proofs.YtgcjmhjjpbcfmaaGreatDoor
namespace Go.Fl
open Go.RowKit
def Blk(w:World)(g:Nat)(t:TypeId)(cs:Array Value):Prop:=w.heap[g]? =some (.cells cs t (0,0))
def putB(w:World)(g:Nat)(t:TypeId)(cs:Array Value):World:={w with heap:=w.heap.setIfInBounds g (.cells cs t (0,0))}
section
variable {w w':World} {g:Nat} {t:TypeId} {cs cs':Array Value}
theorem Blk.lt(h:Blk w g t cs):g<w.heap.size:=by
 rcases Nat.lt_or_ge g w.heap.size with hlt | hge
 ·
  exact hlt
 unfold Blk at h;rw[Array.getElem?_eq_none hge]at h;cases h
theorem Blk.cell(h:Blk w g t cs)(i:Nat):w.cell? ⟨g,i,none⟩=cs[i]? :=cell_of_row w g i cs t (0,0) h
abbrev cz2(w:World)(g:Nat)(a b:Value):Prop:=w.cell? ⟨g,0,none⟩=some a∧w.cell? ⟨g,1,none⟩=some b
theorem Blk.cz2{w:World}{g:Nat}{t:TypeId}{a b:Value}(h:Blk w g t #[a,b]):cz2 w g a b:=⟨h.cell 0,h.cell 1⟩
abbrev cz3(w:World)(g:Nat)(a b c:Value):Prop:=w.cell? ⟨g,0,none⟩=some a∧w.cell? ⟨g,1,none⟩=some b∧w.cell? ⟨g,2,none⟩=some c
theorem Blk.cz3{w:World}{g:Nat}{t:TypeId}{a b c:Value}(h:Blk w g t #[a,b,c]):cz3 w g a b c:=⟨h.cell 0,h.cell 1,h.cell 2⟩
abbrev cz4(w:World)(g:Nat)(a b c d:Value):Prop:=w.cell? ⟨g,0,none⟩=some a∧w.cell? ⟨g,1,none⟩=some b∧w.cell? ⟨g,2,none⟩=some c∧w.cell? ⟨g,3,none⟩=some d
theorem Blk.cz4{w:World}{g:Nat}{t:TypeId}{a b c d:Value}(h:Blk w g t #[a,b,c,d]):cz4 w g a b c d:=⟨h.cell 0,h.cell 1,h.cell 2,h.cell 3⟩
abbrev cz5(w:World)(g:Nat)(a b c d e:Value):Prop:=w.cell? ⟨g,0,none⟩=some a∧w.cell? ⟨g,1,none⟩=some b∧w.cell? ⟨g,2,none⟩=some c∧w.cell? ⟨g,3,none⟩=some d∧w.cell? ⟨g,4,none⟩=some e
theorem Blk.cz5{w:World}{g:Nat}{t:TypeId}{a b c d e:Value}(h:Blk w g t #[a,b,c,d,e]):cz5 w g a b c d e:=⟨h.cell 0,h.cell 1,h.cell 2,h.cell 3,h.cell 4⟩
abbrev cz6(w:World)(g:Nat)(a b c d e i:Value):Prop:=w.cell? ⟨g,0,none⟩=some a∧w.cell? ⟨g,1,none⟩=some b∧w.cell? ⟨g,2,none⟩=some c∧w.cell? ⟨g,3,none⟩=some d∧w.cell? ⟨g,4,none⟩=some e∧w.cell? ⟨g,5,none⟩=some i
theorem Blk.cz6{w:World}{g:Nat}{t:TypeId}{a b c d e i:Value}(h:Blk w g t #[a,b,c,d,e,i]):cz6 w g a b c d e i:=⟨h.cell 0,h.cell 1,h.cell 2,h.cell 3,h.cell 4,h.cell 5⟩
abbrev cz7(w:World)(g:Nat)(a b c d e i j:Value):Prop:=w.cell? ⟨g,0,none⟩=some a∧w.cell? ⟨g,1,none⟩=some b∧w.cell? ⟨g,2,none⟩=some c∧w.cell? ⟨g,3,none⟩=some d∧w.cell? ⟨g,4,none⟩=some e∧w.cell? ⟨g,5,none⟩=some i∧w.cell? ⟨g,6,none⟩=some j
theorem Blk.cz7{w:World}{g:Nat}{t:TypeId}{a b c d e i j:Value}(h:Blk w g t #[a,b,c,d,e,i,j]):cz7 w g a b c d e i j:=⟨h.cell 0,h.cell 1,h.cell 2,h.cell 3,h.cell 4,h.cell 5,h.cell 6⟩
abbrev cz8(w:World)(g:Nat)(a b c d e i j k:Value):Prop:=w.cell? ⟨g,0,none⟩=some a∧w.cell? ⟨g,1,none⟩=some b∧w.cell? ⟨g,2,none⟩=some c∧w.cell? ⟨g,3,none⟩=some d∧w.cell? ⟨g,4,none⟩=some e∧w.cell? ⟨g,5,none⟩=some i∧w.cell? ⟨g,6,none⟩=some j∧w.cell? ⟨g,7,none⟩=some k
theorem Blk.cz8{w:World}{g:Nat}{t:TypeId}{a b c d e i j k:Value}(h:Blk w g t #[a,b,c,d,e,i,j,k]):cz8 w g a b c d e i j k:=⟨h.cell 0,h.cell 1,h.cell 2,h.cell 3,h.cell 4,h.cell 5,h.cell 6,h.cell 7⟩
abbrev cz9(w:World)(g:Nat)(a b c d e i j k l:Value):Prop:=w.cell? ⟨g,0,none⟩=some a∧w.cell? ⟨g,1,none⟩=some b∧w.cell? ⟨g,2,none⟩=some c∧w.cell? ⟨g,3,none⟩=some d∧w.cell? ⟨g,4,none⟩=some e∧w.cell? ⟨g,5,none⟩=some i∧w.cell? ⟨g,6,none⟩=some j∧w.cell? ⟨g,7,none⟩=some k∧w.cell? ⟨g,8,none⟩=some l
theorem Blk.cz9{w:World}{g:Nat}{t:TypeId}{a b c d e i j k l:Value}(h:Blk w g t #[a,b,c,d,e,i,j,k,l]):cz9 w g a b c d e i j k l:=⟨h.cell 0,h.cell 1,h.cell 2,h.cell 3,h.cell 4,h.cell 5,h.cell 6,h.cell 7,h.cell 8⟩
theorem Blk.frozen(h:Blk w g t cs)(i:Nat):w.frozen? ⟨g,i,none⟩=false:=by
 unfold Blk at h
 simp[World.frozen?,h]
theorem Blk.al2{w:World}{g:Nat}{t:TypeId}{a b:Value}(h:Blk w g t #[a,b]):w.cell? ⟨g,0,none⟩=some a∧w.frozen? ⟨g,0,none⟩=false∧w.cell? ⟨g,1,none⟩=some b∧w.frozen? ⟨g,1,none⟩=false:=⟨h.cell 0,h.frozen 0,h.cell 1,h.frozen 1⟩
theorem Blk.al3{w:World}{g:Nat}{t:TypeId}{a b c:Value}(h:Blk w g t #[a,b,c]):w.cell? ⟨g,0,none⟩=some a∧w.frozen? ⟨g,0,none⟩=false∧w.cell? ⟨g,1,none⟩=some b∧w.frozen? ⟨g,1,none⟩=false∧w.cell? ⟨g,2,none⟩=some c∧w.frozen? ⟨g,2,none⟩=false:=⟨h.cell 0,h.frozen 0,h.cell 1,h.frozen 1,h.cell 2,h.frozen 2⟩
theorem Blk.al4{w:World}{g:Nat}{t:TypeId}{a b c d:Value}(h:Blk w g t #[a,b,c,d]):w.cell? ⟨g,0,none⟩=some a∧w.frozen? ⟨g,0,none⟩=false∧w.cell? ⟨g,1,none⟩=some b∧w.frozen? ⟨g,1,none⟩=false∧w.cell? ⟨g,2,none⟩=some c∧w.frozen? ⟨g,2,none⟩=false∧w.cell? ⟨g,3,none⟩=some d∧w.frozen? ⟨g,3,none⟩=false:=⟨h.cell 0,h.frozen 0,h.cell 1,h.frozen 1,h.cell 2,h.frozen 2,h.cell 3,h.frozen 3⟩
theorem Blk.al5{w:World}{g:Nat}{t:TypeId}{a b c d e:Value}(h:Blk w g t #[a,b,c,d,e]):w.cell? ⟨g,0,none⟩=some a∧w.frozen? ⟨g,0,none⟩=false∧w.cell? ⟨g,1,none⟩=some b∧w.frozen? ⟨g,1,none⟩=false∧w.cell? ⟨g,2,none⟩=some c∧w.frozen? ⟨g,2,none⟩=false∧w.cell? ⟨g,3,none⟩=some d∧w.frozen? ⟨g,3,none⟩=false∧w.cell? ⟨g,4,none⟩=some e∧w.frozen? ⟨g,4,none⟩=false:=⟨h.cell 0,h.frozen 0,h.cell 1,h.frozen 1,h.cell 2,h.frozen 2,h.cell 3,h.frozen 3,h.cell 4,h.frozen 4⟩
theorem Blk.al6{w:World}{g:Nat}{t:TypeId}{a b c d e f:Value}(h:Blk w g t #[a,b,c,d,e,f]):w.cell? ⟨g,0,none⟩=some a∧w.frozen? ⟨g,0,none⟩=false∧w.cell? ⟨g,1,none⟩=some b∧w.frozen? ⟨g,1,none⟩=false∧w.cell? ⟨g,2,none⟩=some c∧w.frozen? ⟨g,2,none⟩=false∧w.cell? ⟨g,3,none⟩=some d∧w.frozen? ⟨g,3,none⟩=false∧w.cell? ⟨g,4,none⟩=some e∧w.frozen? ⟨g,4,none⟩=false∧w.cell? ⟨g,5,none⟩=some f∧w.frozen? ⟨g,5,none⟩=false:=⟨h.cell 0,h.frozen 0,h.cell 1,h.frozen 1,h.cell 2,h.frozen 2,h.cell 3,h.frozen 3,h.cell 4,h.frozen 4,h.cell 5,h.frozen 5⟩
theorem Blk.al7{w:World}{g:Nat}{t:TypeId}{a b c d e f i:Value}(h:Blk w g t #[a,b,c,d,e,f,i]):w.cell? ⟨g,0,none⟩=some a∧w.frozen? ⟨g,0,none⟩=false∧w.cell? ⟨g,1,none⟩=some b∧w.frozen? ⟨g,1,none⟩=false∧w.cell? ⟨g,2,none⟩=some c∧w.frozen? ⟨g,2,none⟩=false∧w.cell? ⟨g,3,none⟩=some d∧w.frozen? ⟨g,3,none⟩=false∧w.cell? ⟨g,4,none⟩=some e∧w.frozen? ⟨g,4,none⟩=false∧w.cell? ⟨g,5,none⟩=some f∧w.frozen? ⟨g,5,none⟩=false∧w.cell? ⟨g,6,none⟩=some i∧w.frozen? ⟨g,6,none⟩=false:=⟨h.cell 0,h.frozen 0,h.cell 1,h.frozen 1,h.cell 2,h.frozen 2,h.cell 3,h.frozen 3,h.cell 4,h.frozen 4,h.cell 5,h.frozen 5,h.cell 6,h.frozen 6⟩
theorem Blk.al8{w:World}{g:Nat}{t:TypeId}{a b c d e f i j:Value}(h:Blk w g t #[a,b,c,d,e,f,i,j]):w.cell? ⟨g,0,none⟩=some a∧w.frozen? ⟨g,0,none⟩=false∧w.cell? ⟨g,1,none⟩=some b∧w.frozen? ⟨g,1,none⟩=false∧w.cell? ⟨g,2,none⟩=some c∧w.frozen? ⟨g,2,none⟩=false∧w.cell? ⟨g,3,none⟩=some d∧w.frozen? ⟨g,3,none⟩=false∧w.cell? ⟨g,4,none⟩=some e∧w.frozen? ⟨g,4,none⟩=false∧w.cell? ⟨g,5,none⟩=some f∧w.frozen? ⟨g,5,none⟩=false∧w.cell? ⟨g,6,none⟩=some i∧w.frozen? ⟨g,6,none⟩=false∧w.cell? ⟨g,7,none⟩=some j∧w.frozen? ⟨g,7,none⟩=false:=⟨h.cell 0,h.frozen 0,h.cell 1,h.frozen 1,h.cell 2,h.frozen 2,h.cell 3,h.frozen 3,h.cell 4,h.frozen 4,h.cell 5,h.frozen 5,h.cell 6,h.frozen 6,h.cell 7,h.frozen 7⟩
theorem Blk.al9{w:World}{g:Nat}{t:TypeId}{a b c d e f i j k:Value}(h:Blk w g t #[a,b,c,d,e,f,i,j,k]):w.cell? ⟨g,0,none⟩=some a∧w.frozen? ⟨g,0,none⟩=false∧w.cell? ⟨g,1,none⟩=some b∧w.frozen? ⟨g,1,none⟩=false∧w.cell? ⟨g,2,none⟩=some c∧w.frozen? ⟨g,2,none⟩=false∧w.cell? ⟨g,3,none⟩=some d∧w.frozen? ⟨g,3,none⟩=false∧w.cell? ⟨g,4,none⟩=some e∧w.frozen? ⟨g,4,none⟩=false∧w.cell? ⟨g,5,none⟩=some f∧w.frozen? ⟨g,5,none⟩=false∧w.cell? ⟨g,6,none⟩=some i∧w.frozen? ⟨g,6,none⟩=false∧w.cell? ⟨g,7,none⟩=some j∧w.frozen? ⟨g,7,none⟩=false∧w.cell? ⟨g,8,none⟩=some k∧w.frozen? ⟨g,8,none⟩=false:=⟨h.cell 0,h.frozen 0,h.cell 1,h.frozen 1,h.cell 2,h.frozen 2,h.cell 3,h.frozen 3,h.cell 4,h.frozen 4,h.cell 5,h.frozen 5,h.cell 6,h.frozen 6,h.cell 7,h.frozen 7,h.cell 8,h.frozen 8⟩
theorem Blk.put(h:Blk w g t cs)(cs':Array Value):Blk (putB w g t cs') g t cs':=by
 have:=h.lt;unfold Blk putB
 simp[this]
theorem Blk.setCell_eq(h:Blk w g t cs)(i:Nat)(v:Value):w.setCell ⟨g,i,none⟩ v=putB w g t (cs.setIfInBounds i v):=by
 have hlt:=h.lt;unfold Blk at h;unfold putB World.setCell
 congr 1
 apply Array.ext_getElem?
 intro k;rw[Array.getElem?_modify,Array.getElem?_setIfInBounds]
 by_cases hk:g=k
 ·
  subst hk;rw[if_pos rfl,if_pos rfl,if_pos hlt,h];rfl
 simp[hk]
theorem putB_putB(w:World)(g:Nat)(t:TypeId)(cs cs':Array Value):putB (putB w g t cs) g t cs'=putB w g t cs':=by
 unfold putB
 simp
theorem Blk.put_self(h:Blk w g t cs):putB w g t cs=w:=by
 have hlt:=h.lt;unfold Blk at h;unfold putB
 have:w.heap.setIfInBounds g (.cells cs t (0,0))=w.heap:=by
  apply Array.ext_getElem?
  intro k;rw[Array.getElem?_setIfInBounds]
  by_cases hk:g=k
  ·
   subst hk;rw[if_pos rfl,if_pos hlt,h]
  simp[hk]
 rw[this]
theorem putB_size(w:World)(g:Nat)(t:TypeId)(cs:Array Value):(putB w g t cs).heap.size=w.heap.size:=by simp[putB]
theorem putB_grown(w:World)(g:Nat)(t:TypeId)(cs:Array Value):w.grownBy (putB w g t cs) (some g):=
 ⟨rfl,rfl,rfl,by simp[putB],fun k _ hk=>by
  unfold putB
  rw[Array.getElem?_setIfInBounds,if_neg (fun e=>hk (by rw[e]))]⟩
theorem putB_below{B:Nat}(w:World)(g:Nat)(t:TypeId)(cs:Array Value)(h:B≤g):Below B w (putB w g t cs):=
 ⟨rfl,rfl,rfl,by simp[putB],fun k hk=>by
  unfold putB
  rw[Array.getElem?_setIfInBounds,if_neg (by omega)]⟩
theorem Blk.drewN(h:Blk w g t cs)(n:Nat):Blk (w.drewN n) g t cs:=h
theorem Blk.drew(h:Blk w g t cs):Blk w.drew g t cs:=h
theorem Blk.new(w:World)(t:TypeId)(cs:Array Value):Blk (w.alloc (.cells cs t)) w.heap.size t cs:=heap_alloc_new w _
theorem aX(w:World)(t:TypeId)(cs:Array Value):∃z,z=w.alloc (.cells cs t)∧Go.RowKit.Hid (Go.RowKit.Below w.heap.size w z)∧Go.RowKit.Hid (Blk z w.heap.size t cs):=⟨_,rfl,(Go.RowKit.Below.refl _ _).alloc (Nat.le_refl _) _,Blk.new _ _ _⟩
theorem Blk.alloc(h:Blk w g t cs)(o:Obj):Blk (w.alloc o) g t cs:=(Below.heap_alloc w o g h.lt).trans h
theorem Blk.below{B:Nat}(h:Blk w g t cs)(hb:Below B w w')(hg:g<B):Blk w' g t cs:=(hb.block g hg).trans h
theorem Blk.grown{row:Option Nat}(h:Blk w g t cs)(hb:w.grownBy w' row)(hg:some g≠row):Blk w' g t cs:=(hb.block g h.lt hg).trans h
theorem Blk.far{g':Nat}{t':TypeId}(h:Blk w g t cs)(hp:g≠g')(cs':Array Value):Blk (putB w g' t' cs') g t cs:=by
 unfold Blk putB at *
 rw[Array.getElem?_setIfInBounds,if_neg (fun e=>hp e.symm)];exact h
theorem own_putB{base size n:Nat}{e:TypeId}{v:Value}{xs:List Value}(h:w.ownsRow base e size v n xs)(hg:g<base)(t:TypeId)(cs:Array Value):(putB w g t cs).ownsRow base e size v n xs:=
 h.kept (putB_grown w g t cs) (by
  cases hv:v.ownBlock with
  | none=>exact .inl rfl
  | some k=>
   right
   intro e;have:=(h.lt k hv).1;injection e with e
   omega)
theorem only_drew{a x:World}{row:Option Nat}(h:a.grownBy x row):a.grownBy x.drew row:=⟨h.os,h.tape,h.output,h.size,h.block⟩
theorem only_drewN_alloc(x:World)(n:Nat)(o:Obj)(row:Option Nat):x.grownBy ((x.drewN n).alloc o) row:=
 have h:=World.grownBy_alloc (x.drewN n) o row
 ⟨h.os,h.tape,h.output,h.size,h.block⟩
theorem below_drewN{B:Nat}{a x:World}(h:Below B a x)(n:Nat):Below B a (x.drewN n):=⟨h.os,h.tape,h.output,h.size,h.block⟩
end
end Go.Fl
namespace Go.Proofs.YtgcjmhjjpbcfmaaGreatDoor
open Go.RowKit Go.Fl Go.Fl.Lx
def rtokCells(t:Tok):List Value:=[.i t.kind,.string ⟨t.text.toArray⟩,.i t.line,.i t.col]
def rtoksCells(l:List Tok):List Value:=l.flatMap rtokCells
section
variable {w wr:World} {s:ByteArray} {i n ln co:Nat} {toks:List Tok} {ov:Value}
end
theorem slIndexByte(s:ByteArray)(c:Int)(w:World):
 Calls Tryz.prog 122 #[.string s,.int .u8 c] w fun e w'=>e= .returned (.i (Lib.indexByte s.data.toList c.toNat.toUInt8))∧w=w':=by
 go_in
 have he:=fun w=>run_callFunc_extern (w:=w) Tryz.func170 (by kernel_rfl) (by kernel_rfl) (by kernel_rfl) (e:=Extern.BytealgIndexByte.indexByte) (by kernel_rfl) #[.string s,.int .u8 c]
 simp only[Lib.run_indexByteString,Result.andThen]at he;go_wp2;go_ret;exact⟨rfl,rfl⟩
theorem sIndexByte(s:ByteArray)(c:Int)(w:World):
 Calls Tryz.prog 90 #[.string s,.int .u8 c] w fun e w'=>e= .returned (.i (Lib.indexByte s.data.toList c.toNat.toUInt8))∧w=w':=by
 go_in
 go_wp2_with (go_at_call 122;refine(slIndexByte _ _ _).mono ?_;rintro e w' ⟨rfl,rfl⟩)
 go_ret;exact⟨rfl,rfl⟩
theorem u8_ofNat(b:UInt8):(b.toNat:Int).toNat.toUInt8=b:=by simp
theorem class_any(b:UInt8)(w:World):
 Calls Tryz.prog 88 #[.int .u8 b.toNat] w fun e w'=>e= .returned (.i (cls b))∧w=w':=by
 have s:(b.toNat:Int)<256:=(by have:=b.toNat_lt;omega);have t:(0:Int)≤b.toNat:=(by omega)
 obtain⟨c,hc⟩:∃c:Int,c=b.toNat:=⟨_,rfl⟩
 rw[←hc]at s t ⊢;have i:=hI (show c.toNat.toUInt8=b by rw[hc];exact u8_ofNat b);have m:=hI (show(0≤Lib.indexByte syms b)↔isSym b=true by rw[indexByte_nonneg];unfold isSym;simp);have n:b.toNat=c.toNat:=(by omega);have d:=hI n;clear hc n
 by_cases g1:c=32∨c=9∨c=13∨c=10
 ·
  have a:=hI (show cls b=1 by rw[←i.o];rcases g1 with h | h | h | h<;>rw[h]<;>decide)
  rcases g1 with rfl | rfl | rfl | rfl
  all_goals
   go_in
   go_wp2;go_ret;exact⟨by rw[a.o];rfl,rfl⟩
 have y:(c==32)=false:=(by rw[beq_eq_false_iff_ne];omega);have z:(c==9)=false:=(by rw[beq_eq_false_iff_ne];omega);have B:(c==13)=false:=(by rw[beq_eq_false_iff_ne];omega);have C:(c==10)=false:=(by rw[beq_eq_false_iff_ne];omega);have k:=hI (show isBlank b=false by simp[isBlank,←UInt8.toNat_inj];rw[d.o];omega);clear g1
 by_cases g2:(97≤c∧c≤122)∨(65≤c∧c≤90)
 ·
  have l:=hI (show isLetter b=true by simp[isLetter,UInt8.le_iff_toNat_le];rw[d.o];omega);have a:=hI (show cls b=2 by simp[cls,k.o,l.o])
  rcases g2 with⟨g2,g⟩ | ⟨g2,g⟩
  all_goals
   go_in
   go_wp2;go_ret;exact⟨by rw[a.o];rfl,rfl⟩
 have o:=hI (show isLetter b=false by simp[isLetter,UInt8.le_iff_toNat_le];rw[d.o];omega)
 by_cases g:48≤c∧c≤57
 ·
  have l:=hI (show isDigit b=true by simp[isDigit,UInt8.le_iff_toNat_le];rw[d.o];omega);have a:=hI (show cls b=3 by simp[cls,k.o,l.o,o.o]);obtain⟨g,j⟩:=g;clear g2
  go_in
  go_wp2;go_ret;exact⟨by rw[a.o];rfl,rfl⟩
 have u:=hI (show isDigit b=false by simp[isDigit,UInt8.le_iff_toNat_le];rw[d.o];omega)
 by_cases j:c=95
 ·
  have a:=hI (show cls b=4 by rw[←i.o,j];decide);subst j
  go_in
  go_wp2;go_ret;exact⟨by rw[a.o];rfl,rfl⟩
 by_cases g5:c=46
 ·
  have a:=hI (show cls b=5 by rw[←i.o,g5];decide);subst g5
  go_in
  go_wp2;go_ret;exact⟨by rw[a.o];rfl,rfl⟩
 have v:=hI (show(b==95)=false by simp[←UInt8.toNat_inj];rw[d.o];omega);have x:=hI (show(b==46)=false by simp[←UInt8.toNat_inj];rw[d.o];omega);have a:=hI (show cls b=if isSym b then 6 else 0 by simp[cls,k.o,o.o,u.o,v.o,x.o]);have D:(c==95)=false:=(by rw[beq_eq_false_iff_ne];omega);have E:(c==46)=false:=(by rw[beq_eq_false_iff_ne];omega);have p:Lib.indexByte syms b=Lib.indexByte [40,41,91,93,123,125,44,59,58,39,61,43,45,42,47,94] c.toNat.toUInt8:=(by rw[i.o];rfl);have q:=hI p;clear p
 rcases(by omega:c<48∨(58≤c∧c≤64)∨(91≤c∧c≤96)∨123≤c)with h | ⟨h,h'⟩ | ⟨h,h'⟩ | h
 all_goals
  clear g2 g j g5
  go_in
  go_wp2_with (go_at_call 90;refine(sIndexByte _ _ _).mono ?_;rintro e w' ⟨rfl,rfl⟩)
  ·
   have r:0≤Lib.indexByte [40,41,91,93,123,125,44,59,58,39,61,43,45,42,47,94] c.toNat.toUInt8:=(by assumption);go_ret;exact⟨by rw[a.o,if_pos (m.o.1 (by rw[q.o];exact r))];rfl,rfl⟩
  have r:Lib.indexByte [40,41,91,93,123,125,44,59,58,39,61,43,45,42,47,94] c.toNat.toUInt8<0:=(by assumption);go_ret;exact⟨by rw[a.o,if_neg (fun h=>by have:=m.o.2 h;rw[q.o]at this;omega)];rfl,rfl⟩
theorem digits_any(s:ByteArray)(w:World)(hs:s.size≤maxLen):
 Calls Tryz.prog 172 #[.string s] w fun e w'=>e= .returned (.b (digitsP s.data.toList))∧w=w':=by
 unfold maxLen at hs
 go_in
 go_wp2
 go_loop [6] (fun i=>∃k:Nat,k≤s.size∧i= .i k∧(s.data.toList.take k).all isDigit=true) (fun i=>s.size-(intOf i).toNat)
 case atStart=>exact⟨0,Nat.zero_le _,rfl,rfl⟩
 obtain⟨k,n,rfl,c⟩:=hrel;have d:=hI c;clear c
 by_cases hlt:k<s.size
 ·
  have a:=hI (take_snoc s k hlt);have g:=hI (cls_ne3 s[k])
  by_cases hd:isDigit s[k]=true
  ·
   have j:(((cls s[k]:Nat):Int)!=3)=false:=(by rw[g.o,hd];rfl);have b:=hI hd;clear hd
   go_wp2_with (go_at_call 88;refine(class_any _ _).mono ?_;rintro e w' ⟨rfl,rfl⟩)
   go_round
   case rel=>exact⟨k+1,by omega,by go_num,by rw[a.o];simp[d.o,b.o]⟩
   case measure=>simp[intOf];omega
  have j:(((cls s[k]:Nat):Int)!=3)=true:=(by rw[g.o];simpa using hd);have b:=hI hd;clear hd
  go_wp2_with (go_at_call 88;refine(class_any _ _).mono ?_;rintro e w' ⟨rfl,rfl⟩)
  go_ret;refine⟨ret_bool ?_,rfl⟩;have m:s[k]∈s.data.toList:=List.getElem_mem (l:=s.data.toList) (by simpa using hlt)
  have:s.data.toList.all isDigit=false:=by rw[List.all_eq_false];exact⟨_,m,b.o⟩
  simp[digitsP,this]
 have a:=hI (take_all s k hlt);go_wp2;go_ret;refine⟨ret_bool ?_,rfl⟩;rw[isEmpty_data];have:=d.o;rw[a.o]at this
 simp[digitsP,this]
theorem headLetter_of(s:ByteArray)(h:0<s.size):headLetter s.data.toList=isLetter s[0]:=by
 have:=drop_cons s 0 h;rw[List.drop_zero]at this;rw[this];rfl
theorem word_any(s:ByteArray)(w:World)(hs:s.size≤maxLen):
 Calls Tryz.prog 124 #[.string s] w fun e w'=>e= .returned (.b (wordP s.data.toList))∧w=w':=by
 unfold maxLen at hs
 by_cases hz:s.size=0
 ·
  have d:=hI (show s.data.toList=[]from List.eq_nil_of_length_eq_zero (by simpa using hz));have g:s.toList.isEmpty=true:=(by rw[isEmpty_data,d.o];rfl);have u:s.toList=[]:=(by simpa using g);clear hz
  go_in
  go_wp2;go_ret;exact⟨ret_bool (by rw[d.o];rfl),rfl⟩
 have p:0<s.size:=(by omega);have q:=hI (show s.data.toList≠[]from fun h=>hz (by have:=congrArg List.length h;simpa using this));have g:s.toList.isEmpty=false:=(by rw[isEmpty_data];simpa using q.o);have j:=hI (headLetter_of s p);have m:=hI (cls_ne2 s[0]);clear hz
 by_cases hl:isLetter s[0]=true
 ·
  have r:(((cls s[0]:Nat):Int)!=2)=false:=(by rw[m.o,hl];rfl);have a:=hI hl;clear hl
  go_in
  go_wp2_with (go_at_call 88;refine(class_any _ _).mono ?_;rintro e w' ⟨rfl,rfl⟩)
  go_loop [15] (fun i=>∃k:Nat,k≤s.size∧i= .i k∧(s.data.toList.take k).all inWord=true) (fun i=>s.size-(intOf i).toNat)
  case atStart=>exact⟨0,Nat.zero_le _,rfl,rfl⟩
  obtain⟨k,v,rfl,n⟩:=hrel;have o:=hI n;clear n
  by_cases hlt:k<s.size
  ·
   have b:=hI (take_snoc s k hlt)
   rcases cls_word_ways s[k]with⟨hw,h⟩ | ⟨hw,h2,h3,h4⟩
   ·
    have c:=hI hw;clear hw
    rcases h with h2 | ⟨h2,h3⟩ | ⟨h2,h3,h4⟩
    all_goals
     go_wp2_with (go_at_call 88;refine(class_any _ _).mono ?_;rintro e w' ⟨rfl,rfl⟩)
     go_round
     case rel=>exact⟨k+1,by omega,by go_num,by rw[b.o];simp[o.o,c.o]⟩
     case measure=>simp[intOf];omega
   have c:=hI hw;clear hw
   go_wp2_with (go_at_call 88;refine(class_any _ _).mono ?_;rintro e w' ⟨rfl,rfl⟩)
   go_ret;refine⟨ret_bool ?_,rfl⟩;have t:s[k]∈s.data.toList:=List.getElem_mem (l:=s.data.toList) (by simpa using hlt)
   have:s.data.toList.all inWord=false:=by rw[List.all_eq_false];exact⟨_,t,by rw[c.o];simp⟩
   simp[wordP,this]
  have b:=hI (take_all s k hlt);go_wp2;go_ret;refine⟨ret_bool ?_,rfl⟩;have:=o.o;rw[b.o]at this
  simp[wordP,this,j.o,a.o]
 have r:(((cls s[0]:Nat):Int)!=2)=true:=(by rw[m.o];simpa using hl);have a:=hI hl;clear hl
 go_in
 go_wp2_with (go_at_call 88;refine(class_any _ _).mono ?_;rintro e w' ⟨rfl,rfl⟩)
 go_ret;refine⟨ret_bool ?_,rfl⟩
 simp[wordP,j.o]
 intro h;exact absurd h a.o
theorem slIndex1(s:ByteArray)(c:UInt8)(w:World):
 Calls Tryz.prog 260 #[.string s,.string ⟨#[c]⟩] w fun e w'=>e= .returned (.i (Lib.indexByte s.data.toList c))∧w=w':=by
 by_cases hq:s.data.toList=[c]
 ·
  have hq2:([c]==s.toList)=true:=(by rw[ByteArray.toList_eq,hq];simp);have HQ:=hI hq;clear hq
  go_in
  go_wp2;go_ret;exact⟨ret_int (by rw[HQ.o];simp[Lib.indexByte]),rfl⟩
 have hq2:([c]==s.toList)=false:=by rw[ByteArray.toList_eq,beq_eq_false_iff_ne];exact fun h=>hq h.symm
 clear hq
 go_in
 go_wp2_with (go_at_call 122;refine(slIndexByte _ _ _).mono ?_;rintro e w' ⟨rfl,rfl⟩)
 go_ret;exact⟨rfl,rfl⟩
theorem slCut1_no(s:ByteArray)(c:UInt8)(w:World)(h:c∉s.data.toList):
 Calls Tryz.prog 217 #[.string s,.string ⟨#[c]⟩] w fun e w'=>e= .returned (.tuple #[.string s,.string ⟨#[]⟩,.b false])∧w=w':=by
 have hi:Lib.indexByte s.data.toList c<0:=by
  have h2:=indexByte_nonneg s.data.toList c
  exact Int.not_le.1 fun h3=>h (h2.1 h3)
 go_in
 go_wp2_with (go_at_call 260;refine(slIndex1 _ _ _).mono ?_;rintro e w' ⟨rfl,rfl⟩)
 go_ret3
 exact⟨rfl,rfl⟩
theorem slCut1_yes(s:ByteArray)(c:UInt8)(w:World)(i:Nat)(hi:Lib.indexByte s.data.toList c=i)(hl:i<s.size)(hs:s.size≤maxLen):
 Calls Tryz.prog 217 #[.string s,.string ⟨#[c]⟩] w fun e w'=>e= .returned (.tuple #[.string (s.extract 0 i),.string (s.extract (i+1) s.size),.b true])∧∃n,w'=w.drewN n:=by
 unfold maxLen at hs
 go_in
 go_wp2_with (go_at_call 260;refine(slIndex1 _ _ _).mono ?_;rw[hi];rintro e w' ⟨rfl,rfl⟩)
 have e1:IntKind.i64.wrap ((i:Int)+1)=(i:Int)+1:=IntWalk.i64_in _ (by omega);have e2:0≤(i:Int)+1:=(by omega);have e3:((i:Int)+1).toNat=i+1:=(by omega)
 go_quiet (fail)
 go_wp2
 go_ret3
 exact⟨rfl,_,rfl⟩
theorem sCut1_no(s:ByteArray)(c:UInt8)(w:World)(h:c∉s.data.toList):
 Calls Tryz.prog 171 #[.string s,.string ⟨#[c]⟩] w fun e w'=>e= .returned (.tuple #[.string s,.string ⟨#[]⟩,.b false])∧w=w':=by
 have H:=hI h;clear h
 go_in
 go_wp2_with (go_at_call 217;refine(slCut1_no _ _ _ H.o).mono ?_;rintro e w' ⟨rfl,rfl⟩)
 go_ret3
 exact⟨rfl,rfl⟩
theorem sCut1_yes(s:ByteArray)(c:UInt8)(w:World)(i:Nat)(hi:Lib.indexByte s.data.toList c=i)(hl:i<s.size)(hs:s.size≤maxLen):
 Calls Tryz.prog 171 #[.string s,.string ⟨#[c]⟩] w fun e w'=>∃a b:ByteArray,e= .returned (.tuple #[.string a,.string b,.b true])∧(∃n,w'=w.drewN n)∧
  Hid (a.data.toList=s.data.toList.take i∧b.data.toList=s.data.toList.drop (i+1)):=by
 have H:=hI hi;clear hi
 go_in
 go_wp2_with (go_at_call 217;refine(slCut1_yes _ _ _ i H.o hl hs).mono ?_;rintro e w' ⟨rfl,n,rfl⟩)
 go_ret3
 exact⟨_,_,rfl,⟨_,rfl⟩,by rw[Lib.extract_data];simp,by rw[Lib.extract_data,List.take_of_length_le (by simp)]⟩
theorem number_any(s:ByteArray)(w:World)(hs:s.size≤maxLen):
 Calls Tryz.prog 123 #[.string s] w fun e w'=>e= .returned (.i (numN s.data.toList))∧∃n,w'=w.drewN n:=by
 rcases indexByte_spec s.data.toList 46 with⟨h1,h2⟩ | ⟨h1,i,h2,h3,h4,h5,h6⟩
 ·
  have d:=hI (show numN s.data.toList=if digitsP s.data.toList then s.size else 0 by
   unfold numN;rw[(takeWhile_not_mem _ _ h1).2];simp)
  have o:=hI h1;have j:s.size≤maxLen:=hs;unfold maxLen at j;clear h1 h2
  by_cases c:digitsP s.data.toList=true
  ·
   go_in
   go_wp2_with (first | (go_at_call 171;refine(sCut1_no _ _ _ o.o).mono ?_;rintro e w' ⟨rfl,rfl⟩) | (go_at_call 172;refine(digits_any _ _ hs).mono ?_;rintro e w' ⟨rfl,rfl⟩))
   go_ret;exact⟨ret_int (by rw[d.o,if_pos c]),0,rfl⟩
  have c:digitsP s.data.toList=false:=by simpa using c
  go_in
  go_wp2_with (first | (go_at_call 171;refine(sCut1_no _ _ _ o.o).mono ?_;rintro e w' ⟨rfl,rfl⟩) | (go_at_call 172;refine(digits_any _ _ hs).mono ?_;rintro e w' ⟨rfl,rfl⟩))
  go_ret;exact⟨ret_int (by rw[d.o,c];rfl),0,rfl⟩
 have q:i<s.size:=by simpa using h3
 have d:=hI (show numN s.data.toList=if digitsP (s.data.toList.take i)&&digitsP (s.data.toList.drop (i+1))then i+(s.size-(i+1))else 0 by
  unfold numN;rw[h5,h6,h4];simp;rw[Nat.min_eq_left (by omega)])
 have r:=hI h2;have j:s.size≤maxLen:=hs;unfold maxLen at j;clear h1 h2 h3 h4 h5 h6
 go_in
 go_wp2_with fail;refine(sCut1_yes _ _ _ i r.o q hs).mono ?_;rintro e w' ⟨a,b,rfl,⟨n,rfl⟩,H⟩;have k:=hI (show a.size=i by rw[←length_data,H.o.1];simp;omega);have l:=hI (show b.size=s.size-(i+1)by rw[←length_data,H.o.2];simp);have m:a.size≤maxLen:=(by rw[k.o];unfold maxLen;omega);have p:b.size≤maxLen:=(by rw[l.o];unfold maxLen;omega);have t:a.size+b.size≤9223372036854775807:=(by rw[k.o,l.o];omega)
 by_cases c:digitsP a.data.toList=true
 ·
  by_cases g:digitsP b.data.toList=true
  ·
   go_wp2_with fail;refine(digits_any _ _ m).mono ?_;rintro e w' ⟨rfl,rfl⟩;go_wp2_with fail;refine(digits_any _ _ p).mono ?_;rintro e w' ⟨rfl,rfl⟩;go_wp2;go_ret;refine⟨ret_int ?_,_,rfl⟩;rw[d.o,←H.o.1,←H.o.2,c,g,k.o,l.o]
   simp
  have g:digitsP b.data.toList=false:=(by simpa using g);go_wp2_with fail;refine(digits_any _ _ m).mono ?_;rintro e w' ⟨rfl,rfl⟩;go_wp2_with fail;refine(digits_any _ _ p).mono ?_;rintro e w' ⟨rfl,rfl⟩;go_wp2;go_ret;exact⟨ret_int (by rw[d.o,←H.o.1,←H.o.2,c,g];simp),_,rfl⟩
 have c:digitsP a.data.toList=false:=(by simpa using c);go_wp2_with fail;refine(digits_any _ _ m).mono ?_;rintro e w' ⟨rfl,rfl⟩;go_wp2;go_ret;exact⟨ret_int (by rw[d.o,←H.o.1,←H.o.2,c];simp),_,rfl⟩
theorem kind_any(s:ByteArray)(w:World)(hs:s.size≤maxLen):
 Calls Tryz.prog 92 #[.string s] w fun e w'=>e= .returned (.tuple #[.i (kindOf s.data.toList).1,.i (kindOf s.data.toList).2])∧∃n,w'=w.drewN n:=by
 have b:=hI (show kindOf s.data.toList=if(wordP s.data.toList&&decide (20<s.size))||decide (18<numN s.data.toList)then(0,5)else if wordP s.data.toList then(1,0)else if 0<numN s.data.toList then(2,0)else(0,3)by unfold kindOf;rw[length_data]);have j:s.size≤maxLen:=hs;unfold maxLen at j;obtain⟨r,i⟩:=eX (kindOf s.data.toList);have c:=hI i;rw[←i];clear i
 by_cases d:wordP s.data.toList=true
 ·
  by_cases hl:20<s.size
  ·
   have a:=hI (show r=(0,5)by rw[c.o,b.o];simp[d,hl])
   go_in
   go_wp2_with (first | (go_at_call 123;refine(number_any _ _ hs).mono ?_;rintro e w' ⟨rfl,n,rfl⟩) | (go_at_call 124;refine(word_any _ _ hs).mono ?_;rintro e w' ⟨rfl,rfl⟩))
   go_ret2
   exact⟨by rw[a.o];rfl,_,rfl⟩
  by_cases hn:18<numN s.data.toList
  ·
   have a:=hI (show r=(0,5)by rw[c.o,b.o];simp[hn]);have g:(18:Int)<numN s.data.toList:=(by omega)
   go_in
   go_wp2_with (first | (go_at_call 123;refine(number_any _ _ hs).mono ?_;rintro e w' ⟨rfl,n,rfl⟩) | (go_at_call 124;refine(word_any _ _ hs).mono ?_;rintro e w' ⟨rfl,rfl⟩))
   go_ret2
   exact⟨by rw[a.o];rfl,_,rfl⟩
  have a:=hI (show r=(1,0)by rw[c.o,b.o];simp[d,hn,hl]);have g:¬(18:Int)<numN s.data.toList:=(by omega)
  go_in
  go_wp2_with (first | (go_at_call 123;refine(number_any _ _ hs).mono ?_;rintro e w' ⟨rfl,n,rfl⟩) | (go_at_call 124;refine(word_any _ _ hs).mono ?_;rintro e w' ⟨rfl,rfl⟩))
  go_ret2
  exact⟨by rw[a.o];rfl,_,rfl⟩
 have d:wordP s.data.toList=false:=by simpa using d
 by_cases hn:18<numN s.data.toList
 ·
  have a:=hI (show r=(0,5)by rw[c.o,b.o];simp[hn]);have g:(18:Int)<numN s.data.toList:=(by omega)
  go_in
  go_wp2_with (first | (go_at_call 123;refine(number_any _ _ hs).mono ?_;rintro e w' ⟨rfl,n,rfl⟩) | (go_at_call 124;refine(word_any _ _ hs).mono ?_;rintro e w' ⟨rfl,rfl⟩))
  go_ret2
  exact⟨by rw[a.o];rfl,_,rfl⟩
 by_cases h0:0<numN s.data.toList
 ·
  have a:=hI (show r=(2,0)by rw[c.o,b.o];simp[d,hn,h0]);have g:¬(18:Int)<numN s.data.toList:=(by omega);have k:(0:Int)<numN s.data.toList:=(by omega)
  go_in
  go_wp2_with (first | (go_at_call 123;refine(number_any _ _ hs).mono ?_;rintro e w' ⟨rfl,n,rfl⟩) | (go_at_call 124;refine(word_any _ _ hs).mono ?_;rintro e w' ⟨rfl,rfl⟩))
  go_ret2
  exact⟨by rw[a.o];rfl,_,rfl⟩
 have a:=hI (show r=(0,3)by rw[c.o,b.o];simp[d,hn,h0]);have g:¬(18:Int)<numN s.data.toList:=(by omega);have k:¬(0:Int)<numN s.data.toList:=(by omega)
 go_in
 go_wp2_with (first | (go_at_call 123;refine(number_any _ _ hs).mono ?_;rintro e w' ⟨rfl,n,rfl⟩) | (go_at_call 124;refine(word_any _ _ hs).mono ?_;rintro e w' ⟨rfl,rfl⟩))
 go_ret2
 exact⟨by rw[a.o];rfl,_,rfl⟩
def scan(t:ByteArray)(ln co:Int):Array Value:=#[.string t,.i ln,.i co]
theorem run_any(g:Nat)(t:ByteArray)(ln co:Int)(w:World)(hb:Blk w g 161 (scan t ln co))(hs:t.size≤maxLen):
 Calls Tryz.prog 91 #[.pointer (some ⟨g,0,none⟩)] w fun e w'=>e= .returned (.int .i64 ((t.data.toList.takeWhile inRun).length:Nat))∧w=w':=by
 unfold maxLen at hs;have j:w.cell? ⟨g,0,none⟩=some (.string t):=hb.cell 0;clear hb
 go_in
 go_wp2
 go_loop [3] (fun i=>∃k:Nat,k≤t.size∧i= .int .i64 k∧(t.data.toList.take k).all inRun=true) (fun i=>t.size-(intOf i).toNat)
 case atStart=>exact⟨0,Nat.zero_le _,rfl,rfl⟩
 obtain⟨k,l,rfl,d⟩:=hrel;have a:=hI d;clear d
 by_cases hlt:k<t.size
 ·
  have b:=hI (take_snoc t k hlt)
  rcases cls_run_ways t[k]with⟨hw,h⟩ | ⟨hw,h2,h3,h4,h5⟩
  ·
   have c:=hI hw;clear hw
   rcases h with h2 | ⟨h2,h3⟩ | ⟨h2,h3,h4⟩ | ⟨h2,h3,h4,h5⟩
   all_goals
    go_wp2_with (go_at_call 88;refine(class_any _ _).mono ?_;rintro e w' ⟨rfl,rfl⟩)
    go_round
    case rel=>exact⟨k+1,by omega,by go_num,by rw[b.o];simp[a.o,c.o]⟩
    case measure=>simp[intOf];omega
  have c:=hI hw;clear hw
  go_wp2_with (go_at_call 88;refine(class_any _ _).mono ?_;rintro e w' ⟨rfl,rfl⟩)
  go_ret;exact⟨ret_int (by rw[takeWhile_len_stop t k hlt a.o c.o]),rfl⟩
 have b:=hI (take_all t k hlt);go_wp2;go_ret;have h:=a.o;rw[b.o]at h;exact⟨ret_int (by rw[takeWhile_len_all t h];omega),rfl⟩
def Skipped(w:World)(g:Nat)(t:ByteArray)(ln co n:Nat)(e:Ending)(w':World):Prop:=
  ∃out t':ByteArray,e= .returned (.string out)∧out.data.toList=t.data.toList.take n∧t'.data.toList=t.data.toList.drop n∧
    w'=putB w g 161 (scan t' (adv (t.data.toList.take n) (ln,co)).1 (adv (t.data.toList.take n) (ln,co)).2)
theorem skip_any(g:Nat)(t:ByteArray)(ln co n:Nat)(w:World)(hb:Blk w g 161 (scan t ln co))(hs:t.size≤maxLen)(hn:n≤t.size)
 (hl:ln+n≤4611686018427387904) (hc:co+n≤4611686018427387904):
 Calls Tryz.prog 89 #[.p g,.i n] w (Skipped w g t ln co n):=by
 unfold maxLen at hs;have v:w.cell? ⟨g,0,none⟩=some (.string t):=hb.cell 0;have o:=hI hb;clear hb
 go_in
 go_wp2_with fail;have p:(t.extract 0 n).data.toList=t.data.toList.take n:=(by rw[Lib.extract_data];simp)
 generalize t.extract 0 n=out at *
 have c:=hI p;clear p;have x:=hI (show out.size=n by rw[←length_data,c.o];simp;omega)
 go_loopw [14] (fun i wr=>∃k:Nat,k≤n∧i= .i k∧Hid (wr=putB w g 161 (scan t (adv (t.data.toList.take k) (ln,co)).1 (adv (t.data.toList.take k) (ln,co)).2))) (fun i _=>n-(intOf i).toNat)
 case atStart=>exact⟨0,Nat.zero_le _,rfl,by unfold Hid;simp only[List.take_zero,adv_nil];exact(o.o.put_self).symm⟩
 obtain⟨k,D,rfl,b⟩:=hrel;have a:=hI (show Blk wr g 161 (scan t (adv (t.data.toList.take k) (ln,co)).1 (adv (t.data.toList.take k) (ln,co)).2)by rw[b.o];exact o.o.put _);have q:=adv_bound (t.data.toList.take k) (ln,co) 4611686018427387904 (by simp;omega) (by simp;omega)
 obtain⟨l1,d⟩:∃l1:Nat,l1=(adv (t.data.toList.take k) (ln,co)).1:=⟨_,rfl⟩
 obtain⟨c1,j⟩:∃c1:Nat,c1=(adv (t.data.toList.take k) (ln,co)).2:=⟨_,rfl⟩
 rw[←d,←j]at a q b;have l:=hI (show adv (t.data.toList.take k) (ln,co)=(l1,c1)by rw[d,j]);clear d j;obtain⟨E,F⟩:=q;have G:wr.cell? ⟨g,0,none⟩=some (.string t):=a.o.cell 0;have H:wr.cell? ⟨g,1,none⟩=some (.i l1):=a.o.cell 1;have I:wr.cell? ⟨g,2,none⟩=some (.i c1):=a.o.cell 2;have J:wr.frozen? ⟨g,0,none⟩=false:=a.o.frozen 0;have L:wr.frozen? ⟨g,1,none⟩=false:=a.o.frozen 1;have M:wr.frozen? ⟨g,2,none⟩=false:=a.o.frozen 2;clear v
 by_cases hlt:k<n
 ·
  have r:k<t.size:=(by omega);have y:k<out.size:=(by rw[x.o];exact hlt);have s:=hI (take_snoc t k r)
  have u:=hI (show out[k]=t[k]by
   rw[←getElem_data out k y,←getElem_data t k r]
   simp only[c.o,List.getElem_take])
  by_cases h10:t[k]=10
  ·
   have z:((out[k].toNat:Int)==10)=true:=(by rw[u.o,h10];rfl);have m:=hI (show adv (t.data.toList.take (k+1)) (ln,co)=(l1+1,1)by rw[s.o,adv_snoc,l.o];simp[step1,h10]);clear h10;go_wp2
   go_roundw
   case rel=>
    refine⟨k+1,by omega,by go_num,?_⟩;unfold Hid;rw[m.o,a.o.setCell_eq,(a.o.put _).setCell_eq,putB_putB,(a.o.put _).setCell_eq,putB_putB,b.o,putB_putB]
    rfl
   case measure=>simp[intOf];omega
  have z:((out[k].toNat:Int)==10)=false:=by
   rw[u.o,beq_eq_false_iff_ne];intro h;exact h10 (UInt8.toNat_inj.1 (show t[k].toNat=10 by omega))
  have m:=hI (show adv (t.data.toList.take (k+1)) (ln,co)=(l1,c1+1)by rw[s.o,adv_snoc,l.o];simp[step1,h10]);clear h10;go_wp2
  go_roundw
  case rel=>
   refine⟨k+1,by omega,by go_num,?_⟩;unfold Hid;rw[m.o,a.o.setCell_eq,b.o,putB_putB]
   rfl
  case measure=>simp[intOf];omega
 have B:k=n:=(by omega);subst B;go_wp2;have C:(t.extract k t.size).data.toList=t.data.toList.drop k:=(by rw[Lib.extract_data,List.take_of_length_le (by simp)]);go_ret;refine⟨out,t.extract k t.size,rfl,c.o,C,?_⟩;rw[l.o,a.o.setCell_eq,b.o,putB_putB]
 rfl
theorem skip_at(g:Nat)(t:ByteArray)(ln co n:Nat)(ni:Int)(hni:ni=n)(w:World)(hb:Blk w g 161 (scan t ln co))(hs:t.size≤65536)(hn:n≤t.size)
 (hl:ln+t.size≤70000) (hc:co+t.size≤70000):
 Calls Tryz.prog 89 #[.p g,.i ni] w (Skipped w g t ln co n):=by
 subst hni;exact skip_any g t ln co n w hb (by unfold maxLen;omega) hn (by omega) (by omega)
