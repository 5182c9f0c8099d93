import Derived.Test.YtgcjmhjjpbcfmaaGreatDoorQC
import Derived.ChangeSlices
import Derived.Shelf.Small.Bits
import Derived.Shelf.SlicesE.Clone
set_option linter.unusedVariables false
set_option maxHeartbeats 800000
set_option maxRecDepth 100000
namespace Go.Fl.Nm
def BB:Nat:=4294967296
theorem BB_eq:BB=4294967296:=rfl
theorem BB_pos:0<BB:=by decide
theorem BB_pow:BB=2^32:=by decide
def val:List Nat→Nat
  | []=>0
  | x::l=>x+BB*val l
def ok(l:List Nat):Prop:=∀x∈l,x<BB
def tl:List Nat→Nat
  | []=>0
  | x::l=>if tl l=0 then(if x=0 then 0 else 1)else tl l+1
def limbs(n:Nat):List Nat:=if _h:n=0 then []else n%BB::limbs (n/BB)
termination_by n
decreasing_by exact Nat.div_lt_self (by omega) (by decide)
theorem ok_nil:ok []:=by intro x h;cases h
theorem ok_cons{x:Nat}{l:List Nat}:ok (x::l)↔x<BB∧ok l:=by simp[ok]
theorem ok_append{a b:List Nat}:ok (a++b)↔ok a∧ok b:=by
 constructor
 ·
  intro h;exact⟨fun x hx=>h x (by simp[hx]),fun x hx=>h x (by simp[hx])⟩
 rintro⟨h1,h2⟩ x hx
 rcases List.mem_append.1 hx with h | h
 ·
  exact h1 x h
 exact h2 x h
theorem ok_take{l:List Nat}(h:ok l)(n:Nat):ok (l.take n):=fun x hx=>h x (List.mem_of_mem_take hx)
theorem ok_drop{l:List Nat}(h:ok l)(n:Nat):ok (l.drop n):=fun x hx=>h x (List.mem_of_mem_drop hx)
theorem ok_at{l:List Nat}(h:ok l){i x:Nat}(hx:l[i]? =some x):x<BB:=h x (List.mem_of_getElem? hx)
theorem ok_zeros(n:Nat):ok (List.replicate n 0):=fun x hx=>by rw[List.eq_of_mem_replicate hx];decide
theorem ok_set{l:List Nat}(h:ok l)(i x:Nat)(hx:x<BB):ok (l.set i x):=fun y hy=>by
 rcases List.mem_or_eq_of_mem_set hy with hy | rfl
 ·
  exact h y hy
 exact hx
theorem val_nil:val []=0:=rfl
theorem val_cons(x:Nat)(l:List Nat):val (x::l)=x+BB*val l:=rfl
theorem val_append(a b:List Nat):val (a++b)=val a+BB^a.length*val b:=by
 induction a with
 | nil=>simp[val_nil]
 | cons x a ih=>rw[List.cons_append,val_cons,val_cons,ih,List.length_cons,Nat.pow_succ,Nat.mul_add,←Nat.mul_assoc,Nat.mul_comm BB (BB^a.length)];omega
theorem val_snoc(a:List Nat)(x:Nat):val (a++[x])=val a+BB^a.length*x:=by rw[val_append,val_cons,val_nil];simp
theorem val_zeros(n:Nat):val (List.replicate n 0)=0:=by
 induction n with
 | zero=>rfl
 | succ n ih=>rw[List.replicate_succ,val_cons,ih];rfl
theorem val_lt{l:List Nat}(h:ok l):val l<BB^l.length:=by
 induction l with
 | nil=>simp[val_nil]
 | cons x l ih=>
  have h1:=(ok_cons.1 h).1
  have h2:=ih (ok_cons.1 h).2
  rw[val_cons,List.length_cons,Nat.pow_succ]
  calc x+BB*val l<BB+BB*val l:=by omega
   _=BB*(val l+1):=by rw[Nat.mul_add];omega
   _≤BB*BB^l.length:=Nat.mul_le_mul_left _ h2
   _=BB^l.length*BB:=Nat.mul_comm _ _
theorem val_split(l:List Nat)(k:Nat)(hk:k≤l.length):val l=val (l.take k)+BB^k*val (l.drop k):=by
 conv=>lhs;rw[←List.take_append_drop k l]
 rw[val_append,List.length_take,Nat.min_eq_left hk]
theorem take_succ_at{α:Type}{l:List α}{i:Nat}{x:α}(h:l[i]? =some x):l.take (i+1)=l.take i++[x]:=by
 obtain⟨hi,rfl⟩:=List.getElem?_eq_some_iff.1 h;exact List.take_succ_eq_append_getElem hi
theorem drop_at{α:Type}{l:List α}{i:Nat}{x:α}(h:l[i]? =some x):l.drop i=x::l.drop (i+1):=by
 obtain⟨hi,rfl⟩:=List.getElem?_eq_some_iff.1 h;exact List.drop_eq_getElem_cons hi
theorem val_take_succ{l:List Nat}{i x:Nat}(h:l[i]? =some x):val (l.take (i+1))=val (l.take i)+BB^i*x:=by
 have hi:=(List.getElem?_eq_some_iff.1 h).1;rw[take_succ_at h,val_snoc,List.length_take,Nat.min_eq_left (by omega)]
theorem val_drop{l:List Nat}{i x:Nat}(h:l[i]? =some x):val (l.drop i)=x+BB*val (l.drop (i+1)):=by rw[drop_at h,val_cons]
theorem tl_le(l:List Nat):tl l≤l.length:=by
 induction l with
 | nil=>simp[tl]
 | cons x l ih=>simp only[tl,List.length_cons];split<;>(try split)<;>omega
theorem tl_zero(l:List Nat):tl l=0↔∀x∈l,x=0:=by
 induction l with
 | nil=>simp[tl]
 | cons x l ih=>
  simp only[tl,List.mem_cons,forall_eq_or_imp]
  by_cases h:tl l=0
  ·
   rw[if_pos h];have h2:=ih.1 h
   by_cases hx:x=0
   ·
    simp[hx];exact h2
   simp[hx]
  rw[if_neg h]
  constructor
  ·
   intro h1;omega
  intro h1;exact absurd (ih.2 h1.2) h
theorem tl_unique{l:List Nat}{n:Nat}(hn:n≤l.length)(h0:∀x∈l.drop n,x=0)(h1:∀x,0<n→l[n-1]? =some x→x≠0):tl l=n:=by
 induction l generalizing n with
 | nil=>simp at hn;subst hn;rfl
 | cons x l ih=>
  cases n with
  | zero=>exact(tl_zero _).2 (by simpa using h0)
  | succ n=>
   simp only[tl];simp only[List.length_cons,List.drop_succ_cons]at hn h0
   have:=ih (by omega) h0 (fun y hn0 hy=>h1 y (by omega) (by
    have:n+1-1=(n-1)+1:=by omega
    rw[this];simpa using hy))
   rw[this]
   cases n with
   | zero=>
    have:=h1 x (by omega) (by simp)
    simp[this]
   | succ n=>simp
theorem tl_last{l:List Nat}{x:Nat}(h:0<tl l)(hx:l[tl l-1]? =some x):x≠0:=by
 induction l with
 | nil=>simp[tl]at h
 | cons y l ih=>
  simp only[tl]at h hx
  by_cases h0:tl l=0
  ·
   rw[if_pos h0]at h hx
   by_cases hy:y=0
   ·
    simp[hy]at h
   simp[hy]at hx;omega
  rw[if_neg h0]at h hx
  have:tl l+1-1=(tl l-1)+1:=by omega
  rw[this]at hx;exact ih (by omega) (by simpa using hx)
theorem tl_drop(l:List Nat):∀x∈l.drop (tl l),x=0:=by
 induction l with
 | nil=>simp
 | cons y l ih=>
  simp only[tl]
  by_cases h0:tl l=0
  ·
   rw[if_pos h0];have h2:=(tl_zero l).1 h0
   by_cases hy:y=0
   ·
    simp[hy];exact h2
   simp[hy];exact h2
  rw[if_neg h0];simpa using ih
theorem val_zero_of{l:List Nat}(h:∀x∈l,x=0):val l=0:=by
 induction l with
 | nil=>rfl
 | cons x l ih=>rw[val_cons,h x (by simp),ih (fun y hy=>h y (by simp[hy]))];rfl
theorem val_trim(l:List Nat):val (l.take (tl l))=val l:=by
 rw[val_split l (tl l) (tl_le l),val_zero_of (tl_drop l)];simp
theorem tl_take(l:List Nat):tl (l.take (tl l))=tl l:=by
 refine tl_unique (by simp[tl_le]) (by simp) (fun x h0 hx=>?_);rw[List.getElem?_take_of_lt (by omega)]at hx;exact tl_last h0 hx
theorem val_zero_iff{l:List Nat}:val l=0↔tl l=0:=by
 induction l with
 | nil=>simp[tl,val_nil]
 | cons x l ih=>
  rw[val_cons];simp only[tl];have:=BB_pos
  by_cases h:tl l=0
  ·
   rw[if_pos h,ih.2 h]
   by_cases hx:x=0<;>simp[hx]
  rw[if_neg h]
  have h1:val l≠0:=fun e=>h (ih.1 e)
  constructor
  ·
   intro h2
   have:BB*val l=0:=by omega
   rcases Nat.mul_eq_zero.1 this with h3 | h3
   ·
    omega
   exact absurd h3 h1
  intro h2;omega
theorem val_ge{l:List Nat}(h:0<tl l):BB^(tl l-1)≤val l:=by
 have hl:=tl_le l
 obtain⟨x,hx⟩:∃x,l[tl l-1]? =some x:=⟨_,List.getElem?_eq_getElem (by omega)⟩
 have hx0:=tl_last h hx;have h1:=val_trim l;rw[show l.take (tl l)=l.take (tl l-1+1)by congr 1;omega,val_take_succ hx]at h1;have h2:BB^(tl l-1)*1≤BB^(tl l-1)*x:=Nat.mul_le_mul_left _ (by omega)
 omega
theorem val_lt_tl{l:List Nat}(h:ok l):val l<BB^tl l:=by
 rw[←val_trim l];have:=val_lt (ok_take h (tl l))
 rwa [List.length_take,Nat.min_eq_left (tl_le l)]at this
theorem limbs_zero:limbs 0=[]:=by unfold limbs;simp
theorem limbs_pos{n:Nat}(h:n≠0):limbs n=n%BB::limbs (n/BB):=by
 conv=>lhs;unfold limbs
 simp[h]
theorem limbs_ok(n:Nat):ok (limbs n):=by
 induction n using Nat.strongRecOn with
 | ind n ih=>
  by_cases h:n=0
  ·
   rw[h,limbs_zero];exact ok_nil
  rw[limbs_pos h];exact ok_cons.2 ⟨Nat.mod_lt _ BB_pos,ih _ (Nat.div_lt_self (by omega) (by decide))⟩
theorem val_limbs(n:Nat):val (limbs n)=n:=by
 induction n using Nat.strongRecOn with
 | ind n ih=>
  by_cases h:n=0
  ·
   rw[h,limbs_zero];rfl
  rw[limbs_pos h,val_cons,ih _ (Nat.div_lt_self (by omega) (by decide))];exact Nat.mod_add_div _ _
theorem limbs_eq_nil{n:Nat}:limbs n=[]↔n=0:=by
 constructor
 ·
  intro h
  by_cases h0:n=0
  ·
   exact h0
  rw[limbs_pos h0]at h;cases h
 rintro rfl;exact limbs_zero
theorem trim_limbs{l:List Nat}(h:ok l):l.take (tl l)=limbs (val l):=by
 induction l with
 | nil=>simp[tl,val_nil,limbs_zero]
 | cons x l ih=>
  have hx:=(ok_cons.1 h).1;have ih:=ih (ok_cons.1 h).2
  have hd:(x+BB*val l)/BB=val l:=by
   rw[Nat.add_mul_div_left _ _ BB_pos,Nat.div_eq_of_lt hx];omega
  have hm:(x+BB*val l)%BB=x:=by rw[Nat.add_mul_mod_self_left,Nat.mod_eq_of_lt hx]
  by_cases h0:tl l=0
  ·
   have hv:val l=0:=val_zero_iff.2 h0;simp only[tl,if_pos h0,val_cons]
   by_cases hx0:x=0
   ·
    simp[hx0,hv,limbs_zero]
   rw[if_neg hx0,limbs_pos (by omega),hd,hm,hv,limbs_zero];simp
  have hv:val l≠0:=fun e=>h0 (val_zero_iff.1 e)
  have:BB*val l≠0:=fun e=>by rcases Nat.mul_eq_zero.1 e with h | h;exact absurd h (by decide);exact hv h
  simp only[tl,if_neg h0,val_cons];rw[limbs_pos (by omega),hd,hm,List.take_succ_cons,ih]
theorem tl_limbs{l:List Nat}(h:ok l):tl l=(limbs (val l)).length:=by
 rw[←trim_limbs h,List.length_take,Nat.min_eq_left (tl_le l)]
theorem tl_of_limbs(n:Nat):tl (limbs n)=(limbs n).length:=by rw[tl_limbs (limbs_ok n),val_limbs]
theorem limbs_len{n:Nat}(h:n≠0):BB^((limbs n).length -1)≤n∧n<BB^(limbs n).length:=by
 have h1:0<tl (limbs n):=by
  rcases Nat.eq_zero_or_pos (tl (limbs n))with h0 | h0
  ·
   exact absurd (by rw[←val_limbs n];exact val_zero_iff.2 h0) h
  exact h0
 have h2:=val_ge h1;have h3:=val_lt (limbs_ok n);rw[val_limbs]at h2 h3;rw[tl_of_limbs]at h2;exact⟨h2,h3⟩
theorem limbs_len_le{n k:Nat}(h:n<BB^k):(limbs n).length≤k:=by
 by_cases h0:n=0
 ·
  rw[h0,limbs_zero];simp
 rcases Nat.lt_or_ge k (limbs n).length with h1 | h1
 ·
  have h2:=(limbs_len h0).1;have h3:BB^k≤BB^((limbs n).length -1):=Nat.pow_le_pow_right BB_pos (by omega)
  omega
 exact h1
theorem limbs_lt{n k:Nat}(h:(limbs n).length≤k):n<BB^k:=by
 have h1:=val_lt (limbs_ok n);rw[val_limbs]at h1;exact Nat.lt_of_lt_of_le h1 (Nat.pow_le_pow_right BB_pos h)
def cmpN(a b:Nat):Int:=if a<b then -1 else if b<a then 1 else 0
theorem cmpN_lt{a b:Nat}(h:a<b):cmpN a b= -1:=by simp[cmpN,h]
theorem cmpN_gt{a b:Nat}(h:b<a):cmpN a b=1:=by
 have:¬a<b:=by omega
 simp[cmpN,h,this]
theorem cmpN_eq{a b:Nat}(h:a=b):cmpN a b=0:=by subst h;simp[cmpN]
theorem cmpN_neg(a b:Nat):cmpN a b<0↔a<b:=by
 unfold cmpN;split
 ·
  simp[*]
 split<;>simp<;>omega
theorem cmpN_range(a b:Nat): -1≤cmpN a b∧cmpN a b≤1:=by unfold cmpN;split<;>(try split)<;>omega
theorem val_lt_of_top{a b:List Nat}{i x y:Nat}(ha:ok a)(hx:a[i]? =some x)(hy:b[i]? =some y)(h:x<y)(hd:a.drop (i+1)=b.drop (i+1)):val a<val b:=by
 have hla:=(List.getElem?_eq_some_iff.1 hx).1;have hlb:=(List.getElem?_eq_some_iff.1 hy).1;rw[val_split a (i+1) (by omega),val_split b (i+1) (by omega),hd,val_take_succ hx,val_take_succ hy];have h1:=val_lt (ok_take ha i);rw[List.length_take,Nat.min_eq_left (by omega)]at h1;have h2:BB^i*(x+1)≤BB^i*y:=Nat.mul_le_mul_left _ h;rw[Nat.mul_add]at h2
 omega
theorem val_lt_of_len{a b:List Nat}(ha:ok a)(h:tl a<tl b):val a<val b:=by
 have h1:=val_lt_tl ha;have h2:=val_ge (l:=b) (by omega);have h3:BB^tl a≤BB^(tl b-1):=Nat.pow_le_pow_right BB_pos (by omega)
 omega
def blen(n:Nat):Nat:=if n=0 then 0 else n.log2+1
theorem blen_zero:blen 0=0:=rfl
theorem blen_spec{n:Nat}(h:n≠0):2^(blen n-1)≤n∧n<2^blen n:=by
 unfold blen;rw[if_neg h];exact⟨by simpa using Nat.log2_self_le h,Nat.lt_log2_self⟩
theorem blen_unique{n k:Nat}(h1:2^(k-1)≤n)(h2:n<2^k)(h0:n≠0):blen n=k:=by
 have⟨h3,h4⟩:=blen_spec h0
 have a1:k-1<blen n:=by
  rcases Nat.lt_or_ge (k-1) (blen n)with h | h
  ·
   exact h
  have:=Nat.pow_le_pow_right (n:=2) (by omega) h;omega
 have a2:blen n-1<k:=by
  rcases Nat.lt_or_ge (blen n-1) k with h | h
  ·
   exact h
  have:=Nat.pow_le_pow_right (n:=2) (by omega) h;omega
 have:k≠0:=by rintro rfl;simp at h2;omega
 omega
theorem blen_pos{n:Nat}(h:n≠0):0<blen n:=by unfold blen;rw[if_neg h];omega
theorem blen_mul{x k r:Nat}(hx:x≠0)(hr:r<2^k):blen (2^k*x+r)=k+blen x:=by
 have⟨h1,h2⟩:=blen_spec hx;have hp:=blen_pos hx;have hk:0<2^k:=Nat.pow_pos (by omega);have hge:2^k*1≤2^k*x:=Nat.mul_le_mul_left _ (by omega);refine blen_unique ?_ ?_ (by omega)
 ·
  rw[show k+blen x-1=k+(blen x-1)by omega,Nat.pow_add];exact Nat.le_trans (Nat.mul_le_mul_left _ h1) (Nat.le_add_right _ _)
 rw[Nat.pow_add];have:2^k*(x+1)≤2^k*2^blen x:=Nat.mul_le_mul_left _ h2;rw[Nat.mul_add]at this
 omega
theorem blen_le{n k:Nat}(h:n<2^k):blen n≤k:=by
 by_cases h0:n=0
 ·
  rw[h0];simp[blen]
 rcases Nat.lt_or_ge k (blen n)with h1 | h1
 ·
  have:=(blen_spec h0).1;have h3:=Nat.pow_le_pow_right (n:=2) (by omega) (show k≤blen n-1 by omega)
  omega
 exact h1
theorem blen_val{l:List Nat}{x:Nat}(h:ok l)(h0:0<tl l)(hx:l[tl l-1]? =some x):blen (val l)=32*(tl l-1)+blen x:=by
 have hx0:=tl_last h0 hx;have hl:=tl_le l;have h1:=val_trim l;rw[show l.take (tl l)=l.take (tl l-1+1)by congr 1;omega,val_take_succ hx]at h1;have h2:=val_lt (ok_take h (tl l-1));rw[List.length_take,Nat.min_eq_left (by omega)]at h2;have e:BB^(tl l-1)=2^(32*(tl l-1)):=(by rw[BB_pow,←Nat.pow_mul]);rw[e]at h1 h2;rw[←h1,Nat.add_comm,blen_mul hx0 h2]
end Go.Fl.Nm
namespace Go.Fl
open Go.ChangeShapes Go.WideShapes Go.RowKit
section
variable {H:Type} {enc:TypeId×Value→H} {P:Program} {w:World} {base:Nat} {spare:Nat→Bool} {held:Bool}
end
end Go.Fl
namespace Go.Fl.Nm
open Go.RowKit Go.Fl
def U(l:List Nat):List Value:=l.map fun x:Nat=>Value.int .u32 (x:Int)
theorem U_len(l:List Nat):(U l).length=l.length:=by simp[U]
theorem U_at(l:List Nat)(i x:Nat)(h:l[i]? =some x):(U l)[i]? =some (.int .u32 x):=by simp[U,h]
theorem U_take(l:List Nat)(n:Nat):U (l.take n)=(U l).take n:=by simp[U]
theorem U_append(a b:List Nat):U (a++b)=U a++U b:=by simp[U]
theorem U_set(l:List Nat)(i x:Nat):U (l.set i x)=(U l).set i (.int .u32 x):=by simp[U,List.map_set]
def Sl(w:World)(A:Option Addr)(n c:Nat)(l:List Nat):Prop:=
  l.length=n∧ok l∧n≤c∧c≤maxLen∧(A=none→c=0)∧Rd w 1 A n (U l)
section
variable {w w':World} {A:Option Addr} {n c:Nat} {l:List Nat}
theorem Sl.len(h:Sl w A n c l):l.length=n:=h.1
theorem Sl.ok(h:Sl w A n c l):ok l:=h.2.1
theorem Sl.cap(h:Sl w A n c l):n≤c:=h.2.2.1
theorem Sl.capMax(h:Sl w A n c l):c≤maxLen:=h.2.2.2.1
theorem Sl.nil(h:Sl w A n c l):A=none→c=0:=h.2.2.2.2.1
theorem Sl.rd(h:Sl w A n c l):Rd w 1 A n (U l):=h.2.2.2.2.2
theorem Sl.max(h:Sl w A n c l):n≤maxLen:=Nat.le_trans h.cap h.capMax
theorem Sl.below(h:Sl w A n c l)(hb:Below w.heap.size w w'):Sl w' A n c l:=⟨h.1,h.2.1,h.2.2.1,h.2.2.2.1,h.2.2.2.2.1,h.rd.below hb⟩
theorem Sl.alloc(h:Sl w A n c l)(o:Obj):Sl (w.alloc o) A n c l:=⟨h.1,h.2.1,h.2.2.1,h.2.2.2.1,h.2.2.2.2.1,h.rd.alloc o⟩
theorem Sl.drewN(h:Sl w A n c l)(k:Nat):Sl (w.drewN k) A n c l:=h
theorem Sl.none_(w:World):Sl w none 0 0 []:=⟨rfl,ok_nil,Nat.le_refl _,by unfold maxLen;omega,fun _=>rfl,Rd.none_ _ _⟩
theorem Sl.at_(h:Sl w A n c l){i:Nat}(hi:i<n):∃b off x,A=some ⟨b,off,none⟩∧b<w.heap.size∧l[i]? =some x∧x<BB∧w.cell? ⟨b,off+i,none⟩=some (.int .u32 x):=by
 obtain⟨b,off,hA,hb,hc⟩:=h.rd.at_ (by omega);have hil:i<l.length:=(by rw[h.len];exact hi);exact⟨b,off,l[i],hA,hb,List.getElem?_eq_getElem hil,ok_at h.ok (List.getElem?_eq_getElem hil),hc i _ (U_at l i _ (List.getElem?_eq_getElem hil))⟩
theorem Sl.cut(h:Sl w A n c l){m c':Nat}(hm:m≤n)(hc:m≤c')(hc':c'≤maxLen)(hn:A=none→c'=0):Sl w A m c' (l.take m):=
 ⟨by rw[List.length_take,h.len];omega,ok_take h.ok m,hc,hc',hn,by
  refine⟨by rw[U_len,List.length_take,h.len];omega,fun h0=>?_⟩;obtain⟨b,off,hA,hb,hcell⟩:=h.rd.at_ (by omega);refine⟨b,off,hA,hb,fun j u hu=>hcell j u ?_⟩;rw[U_take]at hu
  have hj:j<m:=by
   rcases Nat.lt_or_ge j m with hj | hj
   ·
    exact hj
   rw[List.getElem?_eq_none (by simp;omega)]at hu;cases hu
  rwa [List.getElem?_take_of_lt hj]at hu⟩
end
end Go.Fl.Nm
namespace Go.Proofs.YtgcjmhjjpbcfmaaGreatDoor
open Go.RowKit Go.Fl Go.Fl.Nm
theorem trim_any(A:Option Addr)(n c:Nat)(l:List Nat)(w:World)(h:Sl w A n c l):
 Calls Tryz.prog 183 #[.l A n c] w fun e w'=>e= .returned (.l A (tl l) c)∧w=w':=by
 have r:=h.max;have z:=h.cap;have s:=h.capMax;unfold maxLen at r s;have H:=hI h;have a:l.length=n:=h.len;have o:=hI a
 cases A with
 | none=>
  have:=h.nil rfl;subst this
  obtain rfl:n=0:=by omega
  have:l=[]:=List.eq_nil_of_length_eq_zero a
  subst this;clear h a
  go_in
  go_wp2
  go_loop [3] (fun i=>i= .i 0) (fun _=>0)
  case atStart=>rfl
  subst hrel
  go_wp2
  go_ret
  exact⟨rfl,rfl⟩
 | some ad=>
  clear h a
  go_in
  go_wp2
  go_loop [3] (fun i=>∃k:Nat,i= .i k∧k≤n∧Hid (∀x∈l.drop k,x=0)) (fun i=>(intOf i).toNat)
  case atStart=>exact⟨n,rfl,by omega,hI (by rw[List.drop_eq_nil_of_le (by rw[o.o];omega)];simp)⟩
  obtain⟨k,rfl,t,d⟩:=hrel
  by_cases hk0:k=0
  ·
   subst hk0;have g:=hI (tl_unique (by omega) d.o (fun x h=>absurd h (by omega)))
   go_wp2
   go_ret;exact⟨by rw[g.o];rfl,rfl⟩
  obtain⟨j,rfl⟩:∃j,k=j+1:=⟨k-1,by omega⟩
  obtain⟨b,B,x,m,C,p,u,D⟩:=H.o.at_ (i:=j) (by omega);injection m with m;subst m;have q:=hI p;clear p hk0;unfold BB at u
  by_cases hx0:x=0
  ·
   subst hx0
   have v:=hI (show ∀x∈l.drop j,x=0 by
    rw[drop_at q.o];intro y hy
    rcases List.mem_cons.1 hy with rfl | hy
    ·
     rfl
    exact d.o y hy)
   go_wp2
   go_round
   case rel=>exact⟨j,by go_num,by omega,v⟩
   case measure=>simp[intOf]
  have g:=hI (tl_unique (by rw[o.o];exact t) d.o (fun y _ hy=>by
   rw[show j+1-1=j by omega,q.o]at hy;injection hy with hy
   omega))
  have E:((x:Int)==0)=false:=by rw[beq_eq_false_iff_ne];omega
  go_wp2
  go_ret;exact⟨by rw[g.o];rfl,rfl⟩
end Go.Proofs.YtgcjmhjjpbcfmaaGreatDoor
namespace Go.Fl.Nm
open Go.RowKit Go.Fl
theorem bv_bits(op:BinOp)(f:BitVec 32→BitVec 32→BitVec 32)(h:∀a b:Int,bits op .u32 a b=IntKind.u32.wrap (f (BitVec.ofInt 32 a) (BitVec.ofInt 32 b)).toNat)(A B:BitVec 32):
 bits op .u32 (A.toNat:Int) (B.toNat:Int)=((f A B).toNat:Int):=by
 rw[h,IntKind.wrap_u32]
 have e:∀V:BitVec 32,BitVec.ofInt 32 (V.toNat:Int)=V:=fun V=>by simp
 rw[e,e];have:=(f A B).isLt
 omega
theorem bv_and(A B:BitVec 32):bits .and .u32 (A.toNat:Int) (B.toNat:Int)=((A&&& B).toNat:Int):=bv_bits .and (· &&& ·) (fun _ _=>rfl) A B
theorem bv_or(A B:BitVec 32):bits .or .u32 (A.toNat:Int) (B.toNat:Int)=((A||| B).toNat:Int):=bv_bits .or (· ||| ·) (fun _ _=>rfl) A B
theorem bv_xor(A B:BitVec 32):bits .xor .u32 (A.toNat:Int) (B.toNat:Int)=((A^^^B).toNat:Int):=bv_bits .xor (· ^^^ ·) (fun _ _=>rfl) A B
theorem bv_top(V:BitVec 32):V.toNat/2147483648=if V.msb then 1 else 0:=by
 have:=V.isLt;rw[BitVec.msb_eq_decide]
 by_cases h:2147483648≤V.toNat
 ·
  simp[h];omega
 simp[h];omega
def bor(x y c:Nat):Nat:=if x<y+c then 1 else 0
theorem bor_le(x y c:Nat):bor x y c≤1:=by unfold bor;split<;>omega
theorem bor_spec(x y c:Nat)(hx:x<4294967296)(hy:y<4294967296)(hc:c≤1):(((x:Int)-y-c)%4294967296).toNat+y+c=x+4294967296*bor x y c:=by
 unfold bor;split<;>omega
theorem sub32_bits(x y c:Nat)(hx:x<4294967296)(hy:y<4294967296)(hc:c≤1):
 bits BinOp.or IntKind.u32 (bits BinOp.and IntKind.u32 (bits BinOp.xor IntKind.u32 IntKind.u32.max (x:Int)) (y:Int))
  (bits BinOp.and IntKind.u32 (bits BinOp.xor IntKind.u32 IntKind.u32.max (bits BinOp.xor IntKind.u32 (x:Int) (y:Int))) (((x:Int)-y-c)%4294967296))/2147483648=((bor x y c:Nat):Int):=by
 obtain⟨d,f⟩:∃d:Nat,((x:Int)-y-c)%4294967296=(d:Int):=⟨(((x:Int)-y-c)%4294967296).toNat,by omega⟩
 have b:d<4294967296:=by omega
 have e:∀n:Nat,n<4294967296→(n:Int)=((BitVec.ofNat 32 n).toNat:Int):=fun n h=>by
  rw[BitVec.toNat_ofNat,Nat.mod_eq_of_lt (by simpa using h)]
 have g:IntKind.u32.max=((BitVec.allOnes 32).toNat:Int):=(by decide);rw[f,e x hx,e y hy,e d b,g];simp only[bv_and,bv_or,bv_xor];have a:=bv_top ((BitVec.allOnes 32^^^BitVec.ofNat 32 x)&&& BitVec.ofNat 32 y||| (BitVec.allOnes 32^^^(BitVec.ofNat 32 x^^^BitVec.ofNat 32 y))&&& BitVec.ofNat 32 d)
 have m:∀n:Nat,n<4294967296→(BitVec.ofNat 32 n).msb=decide (2147483648≤n):=fun n h=>by
  rw[BitVec.msb_eq_decide,BitVec.toNat_ofNat,Nat.mod_eq_of_lt (by simpa using h)]
 have i:(BitVec.allOnes 32).msb=true:=(by decide);simp only[BitVec.msb_or,BitVec.msb_and,BitVec.msb_xor,m x hx,m y hy,m d b,i]at a
 have:((bor x y c:Nat):Int)=(((((BitVec.allOnes 32^^^BitVec.ofNat 32 x)&&& BitVec.ofNat 32 y||| (BitVec.allOnes 32^^^(BitVec.ofNat 32 x^^^BitVec.ofNat 32 y))&&& BitVec.ofNat 32 d)).toNat /2147483648:Nat):Int):=by
  rw[a];clear a;unfold bor
  by_cases h0:x<y+c<;>by_cases h1:2147483648≤x<;>by_cases h2:2147483648≤y<;>by_cases h3:2147483648≤d<;>first | (exfalso;omega) | simp[h0,h1,h2,h3]
 rw[this]
 simp
theorem or_join64(x y:Nat)(hx:x%4294967296=0)(hx1:x<18446744073709551616)(hy:y<4294967296):bits .or .u64 (x:Int) (y:Int)=((x+y:Nat):Int):=by
 have:=bits_join .u64 64 (by decide) (fun n h0 h1=>by simp[IntKind.wrap,IntKind.bits,IntKind.signed];omega) 32 x y (by omega) (by omega) (by omega) (by omega) (by omega) (by omega);rw[this];omega
end Go.Fl.Nm
namespace Go.Proofs.YtgcjmhjjpbcfmaaGreatDoor
open Go.RowKit Go.Fl Go.Fl.Nm
theorem ret_ints{k k':IntKind}{a b a' b':Int}(h:a=a')(h':b=b'):Ending.returned (.tuple #[.int k a,.int k' b])= .returned (.tuple #[.int k a',.int k' b']):=by rw[h,h']
theorem mod_div(Z y:Nat)(h:Z/y<4294967296):((Z:Int)/y)%4294967296=((Z/y:Nat):Int):=by
 rw[←Int.natCast_ediv];generalize Z/y=q at *;omega
theorem mod_mod(Z y:Nat)(h:Z%y<4294967296):((Z:Int)%y)%4294967296=((Z%y:Nat):Int):=by
 rw[←Int.natCast_emod];generalize Z%y=q at *;omega
theorem add32_any(x y c:Nat)(w:World)(hx:x<4294967296)(hy:y<4294967296)(hc:c≤1):
 Calls Tryz.prog 229 #[.int .u32 x,.int .u32 y,.int .u32 c] w fun e w'=>e= .returned (.tuple #[.int .u32 ((x+y+c)%4294967296:Nat),.int .u32 ((x+y+c)/4294967296:Nat)])∧w=w':=by
 go_in
 go_wp2
 go_ret2
 exact⟨ret_ints (by simp) (by simp),rfl⟩
theorem sub32_any(x y c:Nat)(w:World)(hx:x<4294967296)(hy:y<4294967296)(hc:c≤1):
 Calls Tryz.prog 312 #[.int .u32 x,.int .u32 y,.int .u32 c] w fun e w'=>e= .returned (.tuple #[.int .u32 (((x:Int)-y-c)%4294967296),.int .u32 (bor x y c:Nat)])∧w=w':=by
 have HB:=hI (sub32_bits x y c hx hy hc)
 go_in
 go_wp2
 all_goals try trivial
 go_ret2
 exact⟨ret_ints rfl HB.o,rfl⟩
theorem div32_any(h l y:Nat)(w:World)(hh:h<y)(hl:l<4294967296)(hy:y<4294967296):
 Calls Tryz.prog 272 #[.int .u32 h,.int .u32 l,.int .u32 y] w fun e w'=>e= .returned (.tuple #[.int .u32 ((h*4294967296+l)/y:Nat),.int .u32 ((h*4294967296+l)%y:Nat)])∧∃n,w'=w.drewN n:=by
 have y0:((y:Int)==0)=false:=(by rw[beq_eq_false_iff_ne];omega);have y1:((y:Int)!=0)=true:=(by rw[bne_iff_ne];omega);have y2:decide (y≤h)=false:=(by simp;omega);have y3:¬((y:Int)=0):=(by omega);have hz:=or_join64 (h*4294967296) l (by omega) (by omega) hl;rw[show((h*4294967296:Nat):Int)=(h:Int)*4294967296 by omega]at hz
 have hq:(h*4294967296+l)/y<4294967296:=by
  rw[Nat.div_lt_iff_lt_mul (by omega)];have:(h+1)*4294967296≤y*4294967296:=Nat.mul_le_mul_right _ hh
  omega
 have hr:(h*4294967296+l)%y<y:=Nat.mod_lt _ (by omega);have HQ:=hI hq;have HR:=hI hr;clear hq hr
 go_in
 go_wp2
 go_quiet (fail)
 go_wp2
 go_ret2
 have e:(h:Int)*4294967296+l=((h*4294967296+l:Nat):Int):=(by omega);exact⟨ret_ints (by rw[e];exact mod_div _ _ HQ.o) (by rw[e];exact mod_mod _ _ (Nat.lt_trans HR.o hy)),_,rfl⟩
end Go.Proofs.YtgcjmhjjpbcfmaaGreatDoor
namespace Go.Proofs
open Go.Shelf
def Tryz.lays128_ren:Go.Shelf.Ren:=⟨fun | 128=>188 | n=>n,fun | 51=>157 | 3=>3 | 4=>4 | 46=>182 | 5=>5 | 9=>9 | n=>n,fun | n=>n⟩
theorem Tryz.lays128:Go.Proofs.Lays.n128 Tryz.prog Tryz.lays128_ren:={
 mixed:=by kernel_rfl
 f128:=Tryz.func188.trans (congrArg some (by kernel_rfl))
 t3:=Tryz.underlying3
 a3:=Tryz.isAgg3
 z3:=Tryz.sizeOf3
 v3:=Tryz.zeroValue3
 t4:=Tryz.underlying4
 a4:=Tryz.isAgg4
 z4:=Tryz.sizeOf4
 v4:=Tryz.zeroValue4
 t5:=Tryz.underlying5
 a5:=Tryz.isAgg5
 z5:=Tryz.sizeOf5
 v5:=Tryz.zeroValue5
 t9:=Tryz.underlying9
 a9:=Tryz.isAgg9
 z9:=Tryz.sizeOf9
 v9:=Tryz.zeroValue9
 t46:=Tryz.underlying182
 a46:=Tryz.isAgg182
 z46:=Tryz.sizeOf182
 v46:=Tryz.zeroValue182
 t51:=Tryz.underlying157
 a51:=Tryz.isAgg157
 z51:=Tryz.sizeOf157
 v51:=Tryz.zeroValue157}
theorem Tryz.bits_Len32(x:Int)(w:World)(h0:0≤x)(h1:x≤4294967295):
 Calls Tryz.prog 188 #[.int .u32 x] w fun e w'=>e= .returned (.i (Lib.bitLen x.toNat))∧w'=w:=Any.bits_Len32 Tryz.lays128 x w h0 h1
def Tryz.lays133_ren:Go.Shelf.Ren:=⟨fun | 133=>225 | 128=>188 | n=>n,fun | 51=>157 | 3=>3 | 4=>4 | 46=>182 | 5=>5 | 9=>9 | n=>n,fun | n=>n⟩
theorem Tryz.lays133:Go.Proofs.Lays.n133 Tryz.prog Tryz.lays133_ren:={
 mixed:=by kernel_rfl
 f128:=Tryz.func188.trans (congrArg some (by kernel_rfl))
 f133:=Tryz.func225.trans (congrArg some (by kernel_rfl))
 t3:=Tryz.underlying3
 a3:=Tryz.isAgg3
 z3:=Tryz.sizeOf3
 v3:=Tryz.zeroValue3
 t4:=Tryz.underlying4
 a4:=Tryz.isAgg4
 z4:=Tryz.sizeOf4
 v4:=Tryz.zeroValue4
 t5:=Tryz.underlying5
 a5:=Tryz.isAgg5
 z5:=Tryz.sizeOf5
 v5:=Tryz.zeroValue5
 t9:=Tryz.underlying9
 a9:=Tryz.isAgg9
 z9:=Tryz.sizeOf9
 v9:=Tryz.zeroValue9
 t46:=Tryz.underlying182
 a46:=Tryz.isAgg182
 z46:=Tryz.sizeOf182
 v46:=Tryz.zeroValue182
 t51:=Tryz.underlying157
 a51:=Tryz.isAgg157
 z51:=Tryz.sizeOf157
 v51:=Tryz.zeroValue157}
theorem Tryz.bits_LeadingZeros32(x:Int)(w:World)(h0:0≤x)(h1:x≤4294967295):
 Calls Tryz.prog 225 #[.int .u32 x] w fun e w'=>e= .returned (.i (32-(Lib.bitLen x.toNat:Int)))∧w'=w:=Any.bits_LeadingZeros32 Tryz.lays133 x w h0 h1
def Tryz.laysSlE041_f149_ren:Go.Shelf.Ren:=⟨fun | 41=>149 | n=>n,fun | 22=>73 | 23=>157 | 4=>4 | n=>n,fun | n=>n⟩
theorem Tryz.laysSlE041_f149:Go.Proofs.SlLaysE0.n41 Tryz.prog Tryz.laysSlE041_f149_ren:={
 mixed:=by kernel_rfl
 f41:=⟨Tryz.f149.name,by decide,Tryz.func149.trans (congrArg some (by kernel_rfl))⟩
 t4:=Tryz.underlying4
 a4:=Tryz.isAgg4
 z4:=Tryz.sizeOf4
 v4:=Tryz.zeroValue4
 t22:=Tryz.underlying73
 a22:=Tryz.isAgg73
 z22:=Tryz.sizeOf73
 v22:=Tryz.zeroValue73}
open Go.RowKit Go.Lib in
theorem Tryz.slices_Clone_nil(n c:Nat)(w:World):
 Calls Tryz.prog 149 #[.l none n c] w fun e w'=>e= .returned (.sn)∧w'=w:=AnyE.slices_Clone_nil Tryz.laysSlE041_f149 n c w
end Go.Proofs
namespace Go.Proofs.YtgcjmhjjpbcfmaaGreatDoor
open Go.RowKit Go.Fl Go.Fl.Nm
theorem bitLen_blen(x:Nat)(h:x<2^64):Lib.bitLen x=blen x:=by
 induction x using Nat.strongRecOn with
 | ind x ih=>
  by_cases h0:x=0
  ·
   subst h0;rfl
  rw[Lib.bitLen_half x h0 h,ih (x/2) (by omega) (by omega)]
  by_cases h1:x/2=0
  ·
   have:x=1:=by omega
   subst this;rfl
  have e:x=2^1*(x/2)+x%2:=by omega
  conv=>rhs;rw[e]
  rw[blen_mul h1 (by omega)]
abbrev SV:=Option Addr×Nat×Nat
def sv(p:SV):Value:= .l p.1 p.2.1 p.2.2
def longer(K:Nat)(p:SV):Bool:=decide (K<p.2.1)
def LenFn(F K:Nat):Prop:=∀(A:Option Addr) (n c:Nat) (w:World),n≤maxLen→Calls Tryz.prog F #[.l A n c] w fun e w'=>e= .returned (.b (decide (K<n)))∧w=w'
theorem lenFn_natural:LenFn 223 256:=by
 intro A n c w hn;unfold maxLen at hn
 go_in
 go_wp2
 go_ret;exact⟨ret_bool (by simp;omega),rfl⟩
def IdxPost(b:Bool)(w:World)(e:Ending)(w':World):Prop:=∃r:Int,e= .returned (.i r)∧Hid (decide (0≤r)=b)∧w=w'
theorem index_lens_natural(g m:Nat)(xs:List SV)(w:World)(hm:xs.length=m)(hm2:m≤1000)(hx:∀p∈xs,p.2.1≤maxLen)(hc:∀j p,xs[j]? =some p→w.cell? ⟨g,j,none⟩=some (sv p)):
 Calls Tryz.prog 271 #[.slice (some ⟨g,0,none⟩) m m,.func (.func 223) #[] #[]] w (IdxPost (xs.any (longer 256)) w):=by
 have d:=hI hm;have q:=hI hx;have r:=hI hc;clear hm hx hc
 go_in
 go_wp2
 go_loop [8] (fun i=>∃j:Nat,i= .int .i64 j∧j≤m∧Hid ((xs.take j).any (longer 256)=false)) (fun i=>m-(intOf i).toNat)
 case atStart=>exact⟨0,rfl,by omega,hI (by simp)⟩
 obtain⟨j,rfl,s,k⟩:=hrel
 by_cases hlt:j<m
 ·
  obtain⟨p,a⟩:∃p,xs[j]? =some p:=⟨_,List.getElem?_eq_getElem (by rw[d.o];exact hlt)⟩
  obtain⟨A,n,c⟩:=p;have t:w.cell? ⟨g,j,none⟩=some (.slice A n c):=r.o j _ a;have l:=hI a;have o:=hI (q.o _ (List.mem_of_getElem? a));clear a
  by_cases hk:256<n
  ·
   have b:decide (256<n)=true:=(by simp[hk]);go_wp2_with fail;refine(lenFn_natural A n c _ o.o).mono ?_;rintro e w1 ⟨rfl,rfl⟩;rw[b];go_wp2;go_ret;refine⟨j,rfl,hI ?_,rfl⟩;rw[List.any_eq_true.2 ⟨_,List.mem_of_getElem? l.o,by simpa [longer]using hk⟩]
   simp
  have b:decide (256<n)=false:=(by simpa using hk);go_wp2_with fail;refine(lenFn_natural A n c _ o.o).mono ?_;rintro e w1 ⟨rfl,rfl⟩;rw[b];go_wp2
  go_round
  case rel=>
   refine⟨j+1,by go_num,by omega,hI ?_⟩;rw[take_succ_at l.o,List.any_append,k.o]
   simp[longer];omega
  case measure=>simp[intOf];omega
 go_wp2;go_ret;refine⟨-1,rfl,hI ?_,rfl⟩;have:=k.o;rw[List.take_of_length_le (by rw[d.o];omega)]at this;rw[this]
 simp
theorem contains_lens_natural(g m:Nat)(xs:List SV)(w:World)(hm:xs.length=m)(hm2:m≤1000)(hx:∀p∈xs,p.2.1≤maxLen)(hc:∀j p,xs[j]? =some p→w.cell? ⟨g,j,none⟩=some (sv p)):
 Calls Tryz.prog 222 #[.l (some ⟨g,0,none⟩) m m,.func (.func 223) #[] #[]] w fun e w'=>e= .returned (.b (xs.any (longer 256)))∧w=w':=by
 have HI:=hI (index_lens_natural g m xs w hm hm2 hx hc);clear hm hx hc
 go_in
 go_wp2_with fail;refine HI.o.mono ?_;rintro e w1 ⟨r,rfl,HB,rfl⟩;go_wp2;go_ret;exact⟨ret_bool HB.o,rfl⟩
def LongFn(f K:Nat):Prop:=∀(g m:Nat) (xs:List SV) (w:World),xs.length=m→m≤1000→(∀p∈xs,p.2.1≤maxLen)→(∀j p,xs[j]? =some p→w.cell? ⟨g,j,none⟩=some (sv p))→
    Calls Tryz.prog f #[.l (some ⟨g,0,none⟩) m m] w fun e w'=>e= .returned (.b (xs.any (longer K)))∧w=w'
theorem longFn_natural:LongFn 182 256:=by
 intro g m xs w hm hm2 hx hc;have HI:=hI (contains_lens_natural g m xs w hm hm2 hx hc);clear hm hx hc
 go_in
 go_wp2_with fail;refine HI.o.mono ?_;rintro e w1 ⟨rfl,rfl⟩;go_wp2;go_ret;exact⟨rfl,rfl⟩
theorem LongFn.one{f K:Nat}(h:LongFn f K)(A:Option Addr)(n c:Nat)(w:World)(hn:n≤maxLen):
 Calls Tryz.prog f #[.l (some ⟨w.heap.size,0,none⟩) 1 1] (w.alloc (.cells #[.l A n c] 73)) fun e w'=>e= .returned (.b (decide (K<n)))∧w'=w.alloc (.cells #[.l A n c] 73):=by
 refine(h w.heap.size 1 [(A,n,c)] _ rfl (by omega) (by simp[hn]) (fun j p hp=>?_)).mono ?_
 ·
  rw[(Blk.new w _ _).cell]
  match j with
  | 0=>simp at hp;subst hp;rfl
  | j+1=>simp at hp
 rintro e w' ⟨rfl,rfl⟩
 exact⟨by simp[longer],rfl⟩
theorem LongFn.two{f K:Nat}(h:LongFn f K)(A B:Option Addr)(n c m d:Nat)(w:World)(hn:n≤maxLen)(hm:m≤maxLen):
 Calls Tryz.prog f #[.l (some ⟨w.heap.size,0,none⟩) 2 2] (w.alloc (.cells #[.l A n c,.l B m d] 73)) fun e w'=>e= .returned (.b (decide (K<n∨K<m)))∧w'=w.alloc (.cells #[.l A n c,.l B m d] 73):=by
 refine(h w.heap.size 2 [(A,n,c),(B,m,d)] _ rfl (by omega) (by simp[hn,hm]) (fun j p hp=>?_)).mono ?_
 ·
  rw[(Blk.new w _ _).cell]
  match j with
  | 0=>simp at hp;subst hp;rfl
  | 1=>simp at hp;subst hp;rfl
  | j+2=>simp at hp
 rintro e w' ⟨rfl,rfl⟩
 exact⟨by simp[longer],rfl⟩
theorem clip_any(A:Option Addr)(n c:Nat)(w:World)(hn:n≤c)(hc:c≤maxLen)(hA:A=none→c=0):
 Calls Tryz.prog 148 #[.l A n c] w fun e w'=>e= .returned (.l A n n)∧w=w':=by
 unfold maxLen at hc
 cases A with
 | none=>
  obtain rfl:=hA rfl
  obtain rfl:n=0:=by omega
  go_in
  go_wp2
  go_ret
  exact⟨rfl,rfl⟩
 | some ad=>
  clear hA
  go_in
  go_wp2
  go_ret;exact⟨rfl,rfl⟩
theorem bits_any(A:Option Addr)(n c:Nat)(l:List Nat)(w:World)(h:Sl w A n c l)(hn:n≤100000):
 Calls Tryz.prog 144 #[.l A n c] w fun e w'=>e= .returned (.i (blen (val l):Nat))∧w=w':=by
 have H:=hI h;have k:=hI h.len;clear h
 by_cases h0:tl l=0
 ·
  have d:=hI (show blen (val l)=0 by rw[val_zero_iff.2 h0];rfl)
  go_in
  go_wp2_with fail;refine(trim_any A n c l w H.o).mono ?_;rintro e w1 ⟨rfl,rfl⟩;rw[h0];go_wp2;go_ret;exact⟨ret_int (by rw[d.o];rfl),rfl⟩
 have o:tl l≤n:=by rw[←k.o];exact(tl_le l)
 obtain⟨m,a⟩:∃m,tl l=m+1:=⟨tl l-1,by omega⟩
 obtain⟨b,r,x,p,s,g,j,t⟩:=H.o.at_ (i:=m) (by omega);subst p
 have d:=hI (show blen (val l)=32*m+blen x by
  have:=blen_val H.o.ok (by omega) (show l[tl l-1]? =some x by rw[a];exact g)
  rw[this,a];omega)
 have q:=hI a;have u:blen x≤32:=blen_le (by rw[←BB_pow];exact j);have v:m+1≤n:=(by omega);clear g h0 a o;unfold BB at j
 go_in
 go_wp2_with fail;refine(trim_any _ n c l w H.o).mono ?_;rintro e w1 ⟨rfl,rfl⟩;rw[q.o];have y:((m:Int)+1==0)=false:=(by rw[beq_eq_false_iff_ne];omega);go_wp2_with fail;refine(Tryz.bits_Len32 x w (by omega) (by omega)).mono ?_;rintro e w2 ⟨rfl,rfl⟩;rw[show Lib.bitLen ((x:Int).toNat)=blen x from bitLen_blen x (by omega)];go_wp2;go_ret;exact⟨ret_int (by rw[d.o];omega),rfl⟩
theorem drewN_drewN(w:World)(a b:Nat):(w.drewN a).drewN b=w.drewN (a+b):=by
 unfold World.drewN;simp[Nat.add_assoc]
theorem drew1{w wr:World}(h:∃q,wr=w.drewN q)(k:Nat):∃q,wr.drewN k=w.drewN q:=by
 obtain⟨q,rfl⟩:=h;exact⟨_,drewN_drewN w q k⟩
def CmpPost(w:World)(r:Int)(e:Ending)(w':World):Prop:=e= .returned (.i r)∧∃q,w'=w.drewN q
theorem cmp_any(A B:Option Addr)(n c m d:Nat)(a b:List Nat)(w:World)(ha:Sl w A n c a)(hb:Sl w B m d b):
 Calls Tryz.prog 168 #[.l A n c,.l B m d] w (CmpPost w (cmpN (val a) (val b))):=by
 have L:=ha.max;have M:=hb.max;unfold maxLen at L M;have s:=hI ha;have t:=hI hb;have X:tl a≤n:=(by rw[←ha.len];exact tl_le a);have Y:tl b≤m:=(by rw[←hb.len];exact tl_le b);clear ha hb
 generalize hx:tl a=x at *
 generalize hy:tl b=y at *
 have p:=hI hx;have r:=hI hy;clear hx hy
 by_cases hlt:x<y
 ·
  have g:=hI (cmpN_lt (val_lt_of_len s.o.ok (show tl a<tl b by rw[p.o,r.o];exact hlt)));have D:((x:Int)!=y)=true:=(by rw[bne_iff_ne];omega)
  go_in
  go_wp2_with fail;refine(trim_any A n c a w s.o).mono ?_;rintro e w1 ⟨rfl,rfl⟩;rw[p.o];go_wp2_with fail;refine(trim_any B m d b w t.o).mono ?_;rintro e w1 ⟨rfl,rfl⟩;rw[r.o];go_wp2;go_ret;exact⟨ret_int g.o.symm,0,rfl⟩
 by_cases hgt:y<x
 ·
  have g:=hI (cmpN_gt (val_lt_of_len t.o.ok (show tl b<tl a by rw[p.o,r.o];exact hgt)));have D:((x:Int)!=y)=true:=(by rw[bne_iff_ne];omega)
  go_in
  go_wp2_with fail;refine(trim_any A n c a w s.o).mono ?_;rintro e w1 ⟨rfl,rfl⟩;rw[p.o];go_wp2_with fail;refine(trim_any B m d b w t.o).mono ?_;rintro e w1 ⟨rfl,rfl⟩;rw[r.o];go_wp2;go_ret;exact⟨ret_int g.o.symm,0,rfl⟩
 obtain rfl:y=x:=by omega
 have D:((y:Int)!=y)=false:=(by simp);clear hlt hgt
 go_in
 go_wp2_with fail;refine(trim_any A n c a w s.o).mono ?_;rintro e w1 ⟨rfl,rfl⟩;rw[p.o];go_wp2_with fail;refine(trim_any B m d b w t.o).mono ?_;rintro e w1 ⟨rfl,rfl⟩;rw[r.o];go_wp2
 go_loopg [5] y (fun k i wr=>i= .i ((k:Int)-1)∧k≤y∧Hid ((a.take y).drop k=(b.take y).drop k)∧Hid (∃q,wr=w.drewN q))
 case atStart=>exact⟨rfl,by omega,hI (by rw[List.drop_eq_nil_of_le (List.length_take_le _ _),List.drop_eq_nil_of_le (List.length_take_le _ _)]),hI ⟨0,rfl⟩⟩
 obtain⟨rfl,Z,v,l⟩:=hrel
 cases gk with
 | zero=>
  have g:=hI (cmpN_eq (show val a=val b by
   have:=v.o;rw[List.drop_zero,List.drop_zero]at this
   rw[←val_trim a,←val_trim b,p.o,r.o,this]))
  rw[show((0:Nat):Int)-1= -1 by omega];go_wp2;go_ret
  exact⟨ret_int g.o.symm,l.o⟩
 | succ j=>
  rw[show((j+1:Nat):Int)-1=j by omega];obtain⟨N,O,o,P,aa,E,Q,F⟩:=s.o.at_ (i:=j) (by omega);obtain⟨R,S,u,T,ab,G,U,H⟩:=t.o.at_ (i:=j) (by omega);subst P T;have ac:wr.cell? ⟨N,O+j,none⟩=some (.int .u32 o):=(by obtain⟨q,rfl⟩:=l.o;exact F);have ad:wr.cell? ⟨R,S+j,none⟩=some (.int .u32 u):=(by obtain⟨q,rfl⟩:=l.o;exact H);clear F H;have z:=hI (show(a.take y)[j]? =some o by rw[List.getElem?_take_of_lt (by omega)];exact E);have C:=hI (show(b.take y)[j]? =some u by rw[List.getElem?_take_of_lt (by omega)];exact G);have I:=hI (show val (a.take y)=val a by have:=val_trim a;rwa [p.o]at this);have J:=hI (show val (b.take y)=val b by have:=val_trim b;rwa [r.o]at this);have i0:(0:Int)≤j:=(by omega);have i1:(j:Int)<y:=(by omega);unfold BB at Q U;clear E G
  by_cases hl:o<u
  ·
   have g:=hI (cmpN_lt (val_lt_of_top (ok_take s.o.ok y) z.o C.o hl v.o));rw[I.o,J.o]at g;go_wp2
   go_quiet (fail)
   go_wp2;go_ret;exact⟨ret_int g.o.symm,drew1 l.o _⟩
  by_cases hg:u<o
  ·
   have g:=hI (cmpN_gt (val_lt_of_top (ok_take t.o.ok y) C.o z.o hg v.o.symm));rw[I.o,J.o]at g;have V:decide (o<u)=false:=(by simp;omega);go_wp2
   go_quiet (fail)
   go_wp2
   go_quiet (fail)
   go_wp2;go_ret;exact⟨ret_int g.o.symm,by first | exact drew1 (drew1 l.o _) _ | exact drew1 l.o _⟩
  obtain rfl:o=u:=by omega
  have W:=hI (show(a.take y).drop j=(b.take y).drop j by rw[drop_at z.o,drop_at C.o,v.o]);have V:decide (o<o)=false:=(by simp);clear hl hg;go_wp2
  go_quiet (fail)
  go_wp2
  go_quiet (fail)
  go_wp2
  go_roundg j
  case measure=>omega
  case rel=>exact⟨by first | rfl | go_num,by omega,W,hI (by first | exact drew1 (drew1 l.o _) _ | exact drew1 l.o _)⟩
end Go.Proofs.YtgcjmhjjpbcfmaaGreatDoor
namespace Go.Fl.Nm
open Go.RowKit Go.Fl
def UA(l:List Nat):Array Value:=(U l).toArray
theorem UA_size(l:List Nat):(UA l).size=l.length:=by simp[UA,U]
theorem UA_at(l:List Nat)(i x:Nat)(h:l[i]? =some x):(UA l)[i]? =some (.int .u32 x):=by
 unfold UA;rw[List.getElem?_toArray];exact U_at l i x h
theorem UA_set(l:List Nat)(i x:Nat):(UA l).setIfInBounds i (.int .u32 x)=UA (l.set i x):=by
 unfold UA;rw[U_set];simp
def zeros(n:Nat):List Nat:=List.replicate n 0
theorem zeros_len(n:Nat):(zeros n).length=n:=by simp[zeros]
theorem zeros_at(n j:Nat)(h:j<n):(zeros n)[j]? =some 0:=by simp[zeros,h]
theorem made_zeros(n:Nat):madeCells (Value.int .u32 0).cells (n*1)=UA (zeros n):=by
 apply Array.ext_getElem?
 intro i;unfold madeCells UA U zeros
 by_cases h:i<n
 ·
  simp[Value.cells,h,Nat.mod_one]
 simp[h]
theorem blkU_cell{w:World}{g:Nat}{t:TypeId}{l:List Nat}(h:Blk w g t (UA l)){i x:Nat}(hx:l[i]? =some x):w.cell? ⟨g,i,none⟩=some (.int .u32 x):=(h.cell i).trans (UA_at l i x hx)
theorem blkU_set{w:World}{g:Nat}{t:TypeId}{l:List Nat}(h:Blk w g t (UA l))(i x:Nat):Blk (w.setCell ⟨g,i,none⟩ (.int .u32 x)) g t (UA (l.set i x)):=by
 rw[h.setCell_eq,UA_set];exact h.put _
theorem at_set_ne{α:Type}{l:List α}{i j:Nat}(x:α)(h:i≠j):(l.set i x)[j]? =l[j]? :=by rw[List.getElem?_set_ne h]
theorem val_set{l:List Nat}{j o:Nat}(z:Nat)(h:l[j]? =some o):val (l.set j z)+BB^j*o=val l+BB^j*z:=by
 induction l generalizing j with
 | nil=>simp at h
 | cons x l ih=>
  cases j with
  | zero=>simp at h;subst h;simp[val_cons];omega
  | succ j=>
   simp only[List.getElem?_cons_succ]at h;have:=ih h;simp only[List.set_cons_succ,val_cons,Nat.pow_succ];have e1:BB^j*BB*o=BB*(BB^j*o):=(by rw[Nat.mul_comm (BB^j) BB,Nat.mul_assoc]);have e2:BB^j*BB*z=BB*(BB^j*z):=(by rw[Nat.mul_comm (BB^j) BB,Nat.mul_assoc]);have e3:BB*(val (l.set j z)+BB^j*o)=BB*(val l+BB^j*z):=(by rw[this]);rw[Nat.mul_add,Nat.mul_add]at e3;rw[e1,e2];omega
theorem val_set0{l:List Nat}{j:Nat}(z:Nat)(h:l[j]? =some 0):val (l.set j z)=val l+BB^j*z:=by
 have:=val_set z h;simpa using this
def Nw(w:World)(t:TypeId)(base:Nat)(A:Option Addr)(n c:Nat)(l:List Nat):Prop:=
  Sl w A n c l∧(0<n→∃(g:Nat) (cs:Array Value),A=some ⟨g,0,none⟩∧base≤g∧Blk w g t cs)
theorem Nw.sl{w:World}{t:TypeId}{base:Nat}{A:Option Addr}{n c:Nat}{l:List Nat}(h:Nw w t base A n c l):Sl w A n c l:=h.1
theorem Nw.cut{w:World}{t:TypeId}{base:Nat}{A:Option Addr}{n c:Nat}{l:List Nat}(h:Nw w t base A n c l){m c':Nat}(hm:m≤n)(hc:m≤c')(hc':c'≤maxLen)(hn:A=none→c'=0):Nw w t base A m c' (l.take m):=
 ⟨h.1.cut hm hc hc' hn,fun h0=>h.2 (by omega)⟩
theorem Nw.below{w w':World}{t:TypeId}{base:Nat}{A:Option Addr}{n c:Nat}{l:List Nat}(h:Nw w t base A n c l)(hb:Below w.heap.size w w'):Nw w' t base A n c l:=
 ⟨h.1.below hb,fun h0=>by
  obtain⟨g,cs,hA,hg,hB⟩:=h.2 h0
  exact⟨g,cs,hA,hg,hB.below hb hB.lt⟩⟩
theorem Nw.base{w:World}{t:TypeId}{base base':Nat}{A:Option Addr}{n c:Nat}{l:List Nat}(h:Nw w t base A n c l)(hb:base'≤base):Nw w t base' A n c l:=
 ⟨h.1,fun h0=>by
  obtain⟨g,cs,hA,hg,hB⟩:=h.2 h0
  exact⟨g,cs,hA,by omega,hB⟩⟩
theorem Nw.alloc{w:World}{t:TypeId}{base:Nat}{A:Option Addr}{n c:Nat}{l:List Nat}(h:Nw w t base A n c l)(o:Obj):Nw (w.alloc o) t base A n c l:=
 ⟨h.1.alloc o,fun h0=>by
  obtain⟨g,cs,hA,hg,hB⟩:=h.2 h0
  exact⟨g,cs,hA,hg,hB.alloc o⟩⟩
theorem Nw.none_(w:World)(t:TypeId)(base:Nat):Nw w t base none 0 0 []:=⟨Sl.none_ w,fun h=>absurd h (by omega)⟩
theorem Nw.of_blk{w:World}{t:TypeId}{base g n:Nat}{l:List Nat}(hB:Blk w g t (UA l))(hok:ok l)(hg:base≤g)(hn:l.length=n)(hm:n≤maxLen):Nw w t base (some ⟨g,0,none⟩) n n l:=
 ⟨⟨hn,hok,Nat.le_refl _,hm,fun h=>(by cases h),by rw[U_len,hn];omega,fun _=>⟨g,0,rfl,hB.lt,fun j u hu=>by
  rw[Nat.zero_add,hB.cell];unfold UA
  rw[List.getElem?_toArray];exact hu⟩⟩,fun _=>⟨g,_,rfl,hg,hB⟩⟩
end Go.Fl.Nm
namespace Go.Proofs.YtgcjmhjjpbcfmaaGreatDoor
open Go.RowKit Go.Fl Go.Fl.Nm
abbrev tU:TypeId:=157
theorem Tryz.infoU32:(Tryz.prog.info? 157).map (fun i=>(i.zero,i.size,i.bytes))=some (some (.int .u32 0),1,4):=by kernel_rfl
theorem make_u32(n c:Nat)(N C:Int)(hN:N=n)(hC:C=c)(hnc:n≤c)(hc:c≤1000000)(w:World):(Instr.makeSlice 73 (.i N) (.i C)).run Tryz.prog w= .ok (.l (some ⟨w.heap.size,0,none⟩) n c) (w.alloc (.cells (UA (zeros c)) 157)):=by
 subst hN hC;obtain⟨i0,hi,hz0,hz1,hz2⟩:=info_parts Tryz.infoU32;have:=run_make (P:=Tryz.prog) w 73 157 i0 _ Tryz.underlying73 hi hz0 .i64 .i64 n c (by omega) (by omega) (by rw[hz2];omega) (by omega);rw[this,hz1,Int.toNat_natCast,Int.toNat_natCast,made_zeros]
def Fv(N v:Nat)(w:World)(e:Ending)(w':World):Prop:=
  ∃(A:Option Addr) (n c:Nat) (l:List Nat),e= .returned (.l A n c)∧Hid (Nw w' tU w.heap.size A n c l)∧Hid (val l=v)∧n≤N∧Hid (Below w.heap.size w w')
def AddRel(w:World)(g n:Nat)(a b:List Nat)(k:Nat)(cv iv:Value)(wr:World):Prop:=
  ∃(i cc:Nat) (l:List Nat),iv= .i i∧cv= .int .u32 cc∧cc≤1∧i≤n∧k=n-i∧Hid (l.length=n+1)∧Hid (ok l)∧Hid (Blk wr g tU (UA l))∧
    Hid (val l+BB^i*cc=val (a.take i)+val (b.take i))∧Hid (∀j,i≤j→j<n+1→l[j]? =some 0)∧Hid (Below w.heap.size w wr)
theorem add_step{l a b:List Nat}{i n x y cc:Nat}(hl:l.length=n+1)(hok:ok l)(hi:i<n)(hv:val l+BB^i*cc=val (a.take i)+val (b.take i))(hz:∀j,i≤j→j<n+1→l[j]? =some 0)
 (ha:val (a.take (i+1))=val (a.take i)+BB^i*x) (hb:val (b.take (i+1))=val (b.take i)+BB^i*y):
 (l.set i ((x+y+cc)%BB)).length=n+1∧ok (l.set i ((x+y+cc)%BB))∧val (l.set i ((x+y+cc)%BB))+BB^(i+1)*((x+y+cc)/BB)=val (a.take (i+1))+val (b.take (i+1))∧
  (∀j,i+1≤j→j<n+1→(l.set i ((x+y+cc)%BB))[j]? =some 0):=by
 refine⟨by simp[hl],ok_set hok _ _ (Nat.mod_lt _ BB_pos),?_,fun j h1 h2=>by rw[at_set_ne _ (by omega)];exact hz j (by omega) h2⟩;rw[val_set0 _ (hz i (by omega) (by omega)),ha,hb,Nat.pow_succ,Nat.mul_assoc];have e:BB^i*(x+y+cc)=BB^i*((x+y+cc)%BB)+BB^i*(BB*((x+y+cc)/BB)):=(by rw[←Nat.mul_add,Nat.mod_add_div]);simp only[Nat.mul_add]at e ⊢
 omega
theorem add_ge(A B:Option Addr)(n c m d:Nat)(a b:List Nat)(w:World)(ha:Sl w A n c a)(hb:Sl w B m d b)(hmn:m≤n)(hn:n≤100000):
 Calls Tryz.prog 274 #[.l A n c,.l B m d] w (Fv (n+1) (val a+val b) w):=by
 have C:=hI ha;have s:=hI hb;clear ha hb;have Y:decide (n<m)=false:=(by simp;omega);have O:=make_u32 (n+1) (n+1) ((n:Int)+1) ((n:Int)+1) (by omega) (by omega) (by omega) (by omega);have P:=hI ((Below.refl w.heap.size w).alloc (Nat.le_refl _) (.cells (UA (zeros (n+1))) tU))
 go_in
 go_wp2;clear O
 go_loopg [6,23] n (AddRel w w.heap.size n a b)
 case atStart=>exact⟨0,0,zeros (n+1),rfl,rfl,by omega,by omega,rfl,hI (zeros_len _),hI (ok_zeros _),(hI (Blk.new w tU (UA (zeros (n+1))))),hI (by simp[val_nil,zeros,val_zeros]),hI (fun j _ h=>zeros_at _ j h),P⟩
 obtain⟨i,g,l,rfl,rfl,D,Z,rfl,t,u,o,v,q,r⟩:=hrel
 by_cases hin:i<n
 ·
  obtain⟨E,Q,x,R,S,F,z,G⟩:=C.o.at_ hin;subst R;have aa:wr.cell? ⟨E,Q+i,none⟩=some (.int .u32 x):=(r.o.cell (p:=⟨E,_,none⟩) S).trans G;have H:=hI F;clear G F;unfold BB at z;have T:wr.cell? ⟨w.heap.size,i,none⟩=some (.int .u32 (0:Nat)):=blkU_cell o.o (q.o i (by omega) (by omega));have U:wr.frozen? ⟨w.heap.size,i,none⟩=false:=o.o.frozen i
  by_cases him:i<m
  ·
   obtain⟨I,V,y,W,X,J,L,M⟩:=s.o.at_ him;subst W;have ab:wr.cell? ⟨I,V+i,none⟩=some (.int .u32 y):=(r.o.cell (p:=⟨I,_,none⟩) X).trans M;have k:=hI (add_step t.o u.o hin v.o q.o (val_take_succ H.o) (val_take_succ J));clear M J;unfold BB at L;go_wp2_with fail;refine(add32_any x y g _ z L D).mono ?_;rintro e w1 ⟨rfl,rfl⟩;go_wp2
   go_roundg (n-(i+1))
   case measure=>omega
   refine⟨i+1,(x+y+g)/BB,l.set i ((x+y+g)%BB),by go_num,by unfold BB;simp,by unfold BB;omega,by omega,rfl,hI k.o.1,hI k.o.2.1,hI ?_,hI k.o.2.2.1,hI k.o.2.2.2,hI (r.o.setCell (Nat.le_refl _) _)⟩;have:=blkU_set o.o i ((x+y+g)%BB);rw[show(((x+y+g)%BB:Nat):Int)=((x:Int)+y+g)%4294967296 by unfold BB;omega]at this;exact this
  have k:=hI (add_step (y:=0) t.o u.o hin v.o q.o (val_take_succ H.o) (by rw[List.take_of_length_le (by rw[s.o.len];omega),List.take_of_length_le (by rw[s.o.len];omega)];simp));have K:=add32_any x 0 g wr z (by omega) D;rw[show((0:Nat):Int)=0 from rfl]at K;have N:=hI K;clear K;go_wp2_with fail;refine N.o.mono ?_;rintro e w1 ⟨rfl,rfl⟩;clear N;go_wp2
  go_roundg (n-(i+1))
  case measure=>omega
  refine⟨i+1,(x+0+g)/BB,l.set i ((x+0+g)%BB),by go_num,by unfold BB;simp,by unfold BB;omega,by omega,rfl,hI k.o.1,hI k.o.2.1,hI ?_,hI k.o.2.2.1,hI k.o.2.2.2,hI (r.o.setCell (Nat.le_refl _) _)⟩;have:=blkU_set o.o i ((x+0+g)%BB);rw[show(((x+0+g)%BB:Nat):Int)=((x:Int)+g)%4294967296 by unfold BB;omega]at this;exact this
 obtain rfl:i=n:=by omega
 have T:wr.cell? ⟨w.heap.size,i,none⟩=some (.int .u32 (0:Nat)):=blkU_cell o.o (q.o i (by omega) (by omega));have U:wr.frozen? ⟨w.heap.size,i,none⟩=false:=o.o.frozen i;go_wp2;go_ret;refine⟨_,_,_,l.set i g,rfl,hI (Nw.of_blk (blkU_set o.o i g) (ok_set u.o _ _ (by unfold BB;omega)) (Nat.le_refl _) (by rw[List.length_set];exact t.o) (by unfold maxLen;omega)),hI ?_,by omega,hI (r.o.setCell (Nat.le_refl _) _)⟩;have:=v.o;rw[List.take_of_length_le (by rw[C.o.len];omega),List.take_of_length_le (by rw[s.o.len];omega)]at this;rw[val_set0 _ (q.o i (by omega) (by omega)),this]
theorem add_lt(A B:Option Addr)(n c m d:Nat)(a b:List Nat)(w:World)(ha:Sl w A n c a)(hb:Sl w B m d b)(hmn:m<n)(hn:n≤100000):
 Calls Tryz.prog 274 #[.l B m d,.l A n c] w (Fv (n+1) (val a+val b) w):=by
 have C:=hI ha;have s:=hI hb;clear ha hb;have Y:decide (m<n)=true:=(by simp;omega);have O:=make_u32 (n+1) (n+1) ((n:Int)+1) ((n:Int)+1) (by omega) (by omega) (by omega) (by omega);have P:=hI ((Below.refl w.heap.size w).alloc (Nat.le_refl _) (.cells (UA (zeros (n+1))) tU))
 go_in
 go_wp2;clear O
 go_loopg [6,23] n (AddRel w w.heap.size n a b)
 case atStart=>exact⟨0,0,zeros (n+1),rfl,rfl,by omega,by omega,rfl,hI (zeros_len _),hI (ok_zeros _),(hI (Blk.new w tU (UA (zeros (n+1))))),hI (by simp[val_nil,zeros,val_zeros]),hI (fun j _ h=>zeros_at _ j h),P⟩
 obtain⟨i,g,l,rfl,rfl,D,Z,rfl,t,u,o,v,q,r⟩:=hrel
 by_cases hin:i<n
 ·
  obtain⟨E,Q,x,R,S,F,z,G⟩:=C.o.at_ hin;subst R;have aa:wr.cell? ⟨E,Q+i,none⟩=some (.int .u32 x):=(r.o.cell (p:=⟨E,_,none⟩) S).trans G;have H:=hI F;clear G F;unfold BB at z;have T:wr.cell? ⟨w.heap.size,i,none⟩=some (.int .u32 (0:Nat)):=blkU_cell o.o (q.o i (by omega) (by omega));have U:wr.frozen? ⟨w.heap.size,i,none⟩=false:=o.o.frozen i
  by_cases him:i<m
  ·
   obtain⟨I,V,y,W,X,J,L,M⟩:=s.o.at_ him;subst W;have ab:wr.cell? ⟨I,V+i,none⟩=some (.int .u32 y):=(r.o.cell (p:=⟨I,_,none⟩) X).trans M;have k:=hI (add_step t.o u.o hin v.o q.o (val_take_succ H.o) (val_take_succ J));clear M J;unfold BB at L;go_wp2_with fail;refine(add32_any x y g _ z L D).mono ?_;rintro e w1 ⟨rfl,rfl⟩;go_wp2
   go_roundg (n-(i+1))
   case measure=>omega
   refine⟨i+1,(x+y+g)/BB,l.set i ((x+y+g)%BB),by go_num,by unfold BB;simp,by unfold BB;omega,by omega,rfl,hI k.o.1,hI k.o.2.1,hI ?_,hI k.o.2.2.1,hI k.o.2.2.2,hI (r.o.setCell (Nat.le_refl _) _)⟩;have:=blkU_set o.o i ((x+y+g)%BB);rw[show(((x+y+g)%BB:Nat):Int)=((x:Int)+y+g)%4294967296 by unfold BB;omega]at this;exact this
  have k:=hI (add_step (y:=0) t.o u.o hin v.o q.o (val_take_succ H.o) (by rw[List.take_of_length_le (by rw[s.o.len];omega),List.take_of_length_le (by rw[s.o.len];omega)];simp));have K:=add32_any x 0 g wr z (by omega) D;rw[show((0:Nat):Int)=0 from rfl]at K;have N:=hI K;clear K;go_wp2_with fail;refine N.o.mono ?_;rintro e w1 ⟨rfl,rfl⟩;clear N;go_wp2
  go_roundg (n-(i+1))
  case measure=>omega
  refine⟨i+1,(x+0+g)/BB,l.set i ((x+0+g)%BB),by go_num,by unfold BB;simp,by unfold BB;omega,by omega,rfl,hI k.o.1,hI k.o.2.1,hI ?_,hI k.o.2.2.1,hI k.o.2.2.2,hI (r.o.setCell (Nat.le_refl _) _)⟩;have:=blkU_set o.o i ((x+0+g)%BB);rw[show(((x+0+g)%BB:Nat):Int)=((x:Int)+g)%4294967296 by unfold BB;omega]at this;exact this
 obtain rfl:i=n:=by omega
 have T:wr.cell? ⟨w.heap.size,i,none⟩=some (.int .u32 (0:Nat)):=blkU_cell o.o (q.o i (by omega) (by omega));have U:wr.frozen? ⟨w.heap.size,i,none⟩=false:=o.o.frozen i;go_wp2;go_ret;refine⟨_,_,_,l.set i g,rfl,hI (Nw.of_blk (blkU_set o.o i g) (ok_set u.o _ _ (by unfold BB;omega)) (Nat.le_refl _) (by rw[List.length_set];exact t.o) (by unfold maxLen;omega)),hI ?_,by omega,hI (r.o.setCell (Nat.le_refl _) _)⟩;have:=v.o;rw[List.take_of_length_le (by rw[C.o.len];omega),List.take_of_length_le (by rw[s.o.len];omega)]at this;rw[val_set0 _ (q.o i (by omega) (by omega)),this]
theorem add_any(A B:Option Addr)(n c m d:Nat)(a b:List Nat)(w:World)(ha:Sl w A n c a)(hb:Sl w B m d b)(hn:n≤100000)(hm:m≤100000):
 Calls Tryz.prog 274 #[.l A n c,.l B m d] w (Fv (max n m+1) (val a+val b) w):=by
 by_cases hmn:m≤n
 ·
  rw[Nat.max_eq_left hmn];exact add_ge A B n c m d a b w ha hb hmn hn
 rw[Nat.max_eq_right (by omega),Nat.add_comm (val a)];exact add_lt B A m d n c b a w hb ha (by omega) hm
def SubPost(x y c:Nat)(w:World)(e:Ending)(w':World):Prop:=∃d r:Nat,e= .returned (.tuple #[.int .u32 d,.int .u32 r])∧d<BB∧r≤1∧Hid (d+y+c=x+BB*r)∧w=w'
theorem sub32_nat(x y c:Nat)(w:World)(hx:x<4294967296)(hy:y<4294967296)(hc:c≤1):
 Calls Tryz.prog 312 #[.int .u32 x,.int .u32 y,.int .u32 c] w (SubPost x y c w):=by
 refine(sub32_any x y c w hx hy hc).mono ?_;rintro e w1 ⟨rfl,rfl⟩;have h:=bor_spec x y c hx hy hc;refine⟨(((x:Int)-y-c)%4294967296).toNat,bor x y c,?_,by unfold BB;omega,bor_le x y c,hI h,rfl⟩;rw[show(((((x:Int)-y-c)%4294967296).toNat:Nat):Int)=((x:Int)-y-c)%4294967296 by omega]
theorem val_beyond{l:List Nat}{i:Nat}(h:l.length≤i):val (l.take (i+1))=val (l.take i)+BB^i*0:=by
 rw[List.take_of_length_le h,List.take_of_length_le (by omega)];simp
def SubRel(w:World)(g n:Nat)(a b:List Nat)(k:Nat)(cv iv:Value)(wr:World):Prop:=
  ∃(i cc:Nat) (l:List Nat),iv= .i i∧cv= .int .u32 cc∧cc≤1∧i≤n∧k=n-i∧Hid (l.length=n)∧Hid (ok l)∧Hid (Blk wr g tU (UA l))∧
    Hid (val l+val (b.take i)=val (a.take i)+BB^i*cc)∧Hid (∀j,i≤j→j<n→l[j]? =some 0)∧Hid (Below w.heap.size w wr)
theorem sub_step{l a b:List Nat}{i n x y cc d r:Nat}(hl:l.length=n)(hok:ok l)(hi:i<n)(hv:val l+val (b.take i)=val (a.take i)+BB^i*cc)(hz:∀j,i≤j→j<n→l[j]? =some 0)
 (ha:val (a.take (i+1))=val (a.take i)+BB^i*x) (hb:val (b.take (i+1))=val (b.take i)+BB^i*y) (hd:d<BB) (he:d+y+cc=x+BB*r):
 (l.set i d).length=n∧ok (l.set i d)∧val (l.set i d)+val (b.take (i+1))=val (a.take (i+1))+BB^(i+1)*r∧
  (∀j,i+1≤j→j<n→(l.set i d)[j]? =some 0):=by
 refine⟨by simp[hl],ok_set hok _ _ hd,?_,fun j h1 h2=>by rw[at_set_ne _ (by omega)];exact hz j (by omega) h2⟩;rw[val_set0 _ (hz i (by omega) (by omega)),ha,hb,Nat.pow_succ,Nat.mul_assoc];have e:BB^i*(d+y+cc)=BB^i*(x+BB*r):=(by rw[he]);simp only[Nat.mul_add]at e ⊢
 omega
theorem sub_any(A B:Option Addr)(n c m d:Nat)(a b:List Nat)(w:World)(ha:Sl w A n c a)(hb:Sl w B m d b)(hn:n≤100000)(hm:m≤100000)(hle:val b≤val a):
 Calls Tryz.prog 275 #[.l A n c,.l B m d] w (Fv n (val a-val b) w):=by
 have V:=hI ha;have W:=hI hb;have am:tl a≤n:=(by rw[←ha.len];exact tl_le a);have an:tl b≤m:=(by rw[←hb.len];exact tl_le b)
 have ao:tl b≤tl a:=by
  rcases Nat.lt_or_ge (tl a) (tl b)with h | h
  ·
   have:=val_lt_of_len ha.ok h;omega
  exact h
 have I:=hI (ha.cut (m:=tl a) (c':=c) (by omega) (by have:=ha.cap;omega) ha.capMax ha.nil);have C:=hI (hb.cut (m:=tl b) (c':=d) (by omega) (by have:=hb.cap;omega) hb.capMax hb.nil);have X:=hI (val_trim a);have Y:=hI (val_trim b);have Z:=hI hle;clear ha hb hle
 generalize hx:tl a=x at *
 generalize hy:tl b=y at *
 have HX:=hI hx;have HY:=hI hy;clear hx hy;have ac:=make_u32 x x (x:Int) (x:Int) (by omega) (by omega) (by omega) (by omega);have ad:=hI ((Below.refl w.heap.size w).alloc (Nat.le_refl _) (.cells (UA (zeros x)) tU))
 go_in
 go_wp2_with fail;refine(trim_any A n c a w V.o).mono ?_;rintro e w1 ⟨rfl,rfl⟩;rw[HX.o];go_wp2_with fail;refine(trim_any B m d b w W.o).mono ?_;rintro e w1 ⟨rfl,rfl⟩;rw[HY.o];go_wp2;clear ac
 go_loopg [6,19] x (SubRel w w.heap.size x (a.take x) (b.take y))
 case atStart=>exact⟨0,0,zeros x,rfl,rfl,by omega,by omega,rfl,hI (zeros_len _),hI (ok_zeros _),(hI (Blk.new w tU (UA (zeros x)))),hI (by simp[val_nil,zeros,val_zeros]),hI (fun j _ h=>zeros_at _ j h),ad⟩
 obtain⟨i,u,l,rfl,rfl,J,hi,rfl,v,z,k,D,E,o⟩:=hrel
 by_cases hin:i<x
 ·
  obtain⟨L,o1,p,hA,ag,M,F,N⟩:=I.o.at_ hin;subst hA;have aq:wr.cell? ⟨L,o1+i,none⟩=some (.int .u32 p):=(o.o.cell (p:=⟨L,_,none⟩) ag).trans N;have O:=hI M;clear N M;unfold BB at F;have ar:wr.cell? ⟨w.heap.size,i,none⟩=some (.int .u32 (0:Nat)):=blkU_cell k.o (E.o i (by omega) (by omega));have au:wr.frozen? ⟨w.heap.size,i,none⟩=false:=k.o.frozen i
  by_cases him:i<y
  ·
   obtain⟨P,o2,q,hB,aj,Q,R,S⟩:=C.o.at_ him;subst hB;have av:wr.cell? ⟨P,o2+i,none⟩=some (.int .u32 q):=(o.o.cell (p:=⟨P,_,none⟩) aj).trans S;have HQ:=hI Q;clear S Q;unfold BB at R;go_wp2_with fail;refine(sub32_nat p q u _ F R J).mono ?_;rintro e w1 ⟨s,r,rfl,t,G,H,rfl⟩;have g:=hI (sub_step v.o z.o hin D.o E.o (val_take_succ O.o) (val_take_succ HQ.o) t H.o);unfold BB at t;go_wp2
   go_roundg (x-(i+1))
   case measure=>omega
   case rel=>exact⟨i+1,r,l.set i s,by go_num,rfl,G,by omega,rfl,hI g.o.1,hI g.o.2.1,hI (blkU_set k.o i s),hI g.o.2.2.1,hI g.o.2.2.2,hI (o.o.setCell (Nat.le_refl _) _)⟩
  have K:=sub32_nat p 0 u wr F (by omega) J;rw[show((0:Nat):Int)=0 from rfl]at K;have T:=hI K;clear K;go_wp2_with fail;refine T.o.mono ?_;rintro e w1 ⟨s,r,rfl,t,G,H,rfl⟩;have g:=hI (sub_step (y:=0) v.o z.o hin D.o E.o (val_take_succ O.o) (val_beyond (by rw[C.o.len];omega)) t H.o);clear T;unfold BB at t;go_wp2
  go_roundg (x-(i+1))
  case measure=>omega
  case rel=>exact⟨i+1,r,l.set i s,by go_num,rfl,G,by omega,rfl,hI g.o.1,hI g.o.2.1,hI (blkU_set k.o i s),hI g.o.2.2.1,hI g.o.2.2.2,hI (o.o.setCell (Nat.le_refl _) _)⟩
 obtain rfl:i=x:=by omega
 go_wp2;go_ret;refine⟨_,_,_,l,rfl,hI (Nw.of_blk k.o z.o (Nat.le_refl _) v.o (by unfold maxLen;omega)),hI ?_,by omega,o⟩;have U:=D.o;rw[List.take_of_length_le (l:=a.take i) (by rw[I.o.len];omega),List.take_of_length_le (l:=b.take y) (by rw[C.o.len];omega),X.o,Y.o]at U;have h2:=val_lt z.o;rw[v.o]at h2;have h3:=Z.o
 rcases Nat.eq_zero_or_pos u with h | h
 ·
  rw[h]at U;omega
 obtain rfl:u=1:=by omega
 omega
def MulRel(w:World)(g n m:Nat)(a b:List Nat)(k:Nat)(iv:Value)(wr:World):Prop:=
  ∃(i:Nat) (l:List Nat),iv= .i i∧i≤n∧k=n-i∧Hid (l.length=n+m)∧Hid (ok l)∧Hid (Blk wr g tU (UA l))∧
    Hid (val l=val (a.take i)*val b)∧Hid (∀j,i+m≤j→j<n+m→l[j]? =some 0)∧Hid (Below w.heap.size w wr)
def MulIn(w:World)(g n m i x:Nat)(b l0:List Nat)(k:Nat)(cv iv:Value)(wr:World):Prop:=
  ∃(kk cc:Nat) (l:List Nat),iv= .i kk∧cv= .int .u64 cc∧cc<4294967296∧kk≤m∧k=m-kk∧Hid (l.length=n+m)∧Hid (ok l)∧Hid (Blk wr g tU (UA l))∧
    Hid (val l+BB^(i+kk)*cc=val l0+BB^i*(x*val (b.take kk)))∧Hid (∀j,i+m≤j→j<n+m→l[j]? =some 0)∧Hid (Below w.heap.size w wr)
theorem mul_step{l l0 b:List Nat}{i n m kk x y o cc:Nat}(hl:l.length=n+m)(hok:ok l)(hv:val l+BB^(i+kk)*cc=val l0+BB^i*(x*val (b.take kk)))
 (hz:∀j,i+m≤j→j<n+m→l[j]? =some 0) (hk:kk<m) (hb:val (b.take (kk+1))=val (b.take kk)+BB^kk*y) (ho:l[i+kk]? =some o):
 (l.set (i+kk) ((x*y+o+cc)%BB)).length=n+m∧ok (l.set (i+kk) ((x*y+o+cc)%BB))∧
  val (l.set (i+kk) ((x*y+o+cc)%BB))+BB^(i+(kk+1))*((x*y+o+cc)/BB)=val l0+BB^i*(x*val (b.take (kk+1)))∧
  (∀j,i+m≤j→j<n+m→(l.set (i+kk) ((x*y+o+cc)%BB))[j]? =some 0):=by
 refine⟨by simp[hl],ok_set hok _ _ (Nat.mod_lt _ BB_pos),?_,fun j h1 h2=>by rw[at_set_ne _ (by omega)];exact hz j h1 h2⟩;have h1:=val_set ((x*y+o+cc)%BB) ho;rw[hb,←Nat.add_assoc i kk 1,Nat.pow_succ,Nat.mul_assoc (BB^(i+kk))];have e:BB^(i+kk)*(x*y+o+cc)=BB^(i+kk)*((x*y+o+cc)%BB)+BB^(i+kk)*(BB*((x*y+o+cc)/BB)):=(by rw[←Nat.mul_add,Nat.mod_add_div])
 have e2:BB^i*(x*(val (b.take kk)+BB^kk*y))=BB^i*(x*val (b.take kk))+BB^(i+kk)*(x*y):=by
  rw[Nat.mul_add x,Nat.mul_add,Nat.pow_add,Nat.mul_left_comm x,Nat.mul_assoc (BB^i)]
 rw[e2];simp only[Nat.mul_add]at e h1 ⊢
 omega
theorem mul_out{l l0 a b:List Nat}{i n m x cc:Nat}(hl:l.length=n+m)(hok:ok l)(hv:val l+BB^(i+m)*cc=val l0+BB^i*(x*val b))(h0:val l0=val (a.take i)*val b)
 (hz:∀j,i+m≤j→j<n+m→l[j]? =some 0) (hi:i<n) (hc:cc<BB) (ha:val (a.take (i+1))=val (a.take i)+BB^i*x):
 (l.set (i+m) cc).length=n+m∧ok (l.set (i+m) cc)∧val (l.set (i+m) cc)=val (a.take (i+1))*val b∧(∀j,i+1+m≤j→j<n+m→(l.set (i+m) cc)[j]? =some 0):=by
 refine⟨by simp[hl],ok_set hok _ _ hc,?_,fun j h1 h2=>by rw[at_set_ne _ (by omega)];exact hz j (by omega) h2⟩;rw[val_set0 _ (hz (i+m) (by omega) (by omega)),hv,h0,ha,Nat.add_mul,Nat.mul_assoc]
theorem mul_bd{x y:Nat}(hx:x<4294967296)(hy:y<4294967296):(x:Int)*y≤18446744065119617025∧0≤(x:Int)*y∧x*y≤18446744065119617025:=by
 have h:x*y≤4294967295*4294967295:=Nat.mul_le_mul (by omega) (by omega);have e:((x*y:Nat):Int)=(x:Int)*y:=(by simp);refine⟨?_,?_,by omega⟩<;>rw[←e]<;>omega
theorem mul_any(A B:Option Addr)(n c m d:Nat)(a b:List Nat)(w:World)(ha:Sl w A n c a)(hb:Sl w B m d b)(hn:n≤100000)(hm:m≤100000):
 Calls Tryz.prog 314 #[.l A n c,.l B m d] w (Fv (n+m) (val a*val b) w):=by
 have F:=hI ha;have G:=hI hb;clear ha hb;have W:=make_u32 (n+m) (n+m) ((n:Int)+m) ((n:Int)+m) (by omega) (by omega) (by omega) (by omega);have X:=hI ((Below.refl w.heap.size w).alloc (Nat.le_refl _) (.cells (UA (zeros (n+m))) tU))
 go_in
 go_wp2;clear W
 go_loopg [20] n (MulRel w w.heap.size n m a b)
 case atStart=>exact⟨0,zeros (n+m),rfl,by omega,rfl,hI (zeros_len _),hI (ok_zeros _),(hI (Blk.new w tU (UA (zeros (n+m))))),hI (by simp[val_nil,zeros,val_zeros]),hI (fun j _ h=>zeros_at _ j h),X⟩
 obtain⟨i,u,rfl,hi,rfl,H,I,J,L,Y,v⟩:=hrel
 by_cases hin:i<n
 ·
  obtain⟨M,Z,x,hA,ab,N,O,P⟩:=F.o.at_ hin;subst hA;have an:wr.cell? ⟨M,Z+i,none⟩=some (.int .u32 x):=(v.o.cell (p:=⟨M,_,none⟩) ab).trans P;have HX:=hI N;clear P N;unfold BB at O;obtain⟨wo,rfl⟩:=eX (wr);go_wp2
  go_loopg [8,27] m (MulIn w w.heap.size n m i x b u)
  case atStart=>exact⟨0,0,u,rfl,rfl,by omega,by omega,rfl,H,I,J,hI (by simp[val_nil]),Y,v⟩
  obtain⟨g,k,l,rfl,rfl,ad,hk,rfl,z,C,r,Q,D,E⟩:=hrel
  by_cases hkm:g<m
  ·
   obtain⟨R,o2,y,hB,ag,S,T,U⟩:=G.o.at_ hkm;subst hB;have aq:wr.cell? ⟨R,o2+g,none⟩=some (.int .u32 y):=(E.o.cell (p:=⟨R,_,none⟩) ag).trans U
   obtain⟨o,t⟩:∃o,l[i+g]? =some o:=⟨_,List.getElem?_eq_getElem (by rw[z.o];omega)⟩
   have ah:=ok_at C.o t;have ai:wr.cell? ⟨w.heap.size,i+g,none⟩=some (.int .u32 o):=blkU_cell r.o t;have aj:wr.frozen? ⟨w.heap.size,i+g,none⟩=false:=r.o.frozen _;have q:=hI (mul_step z.o C.o Q.o D.o hkm (val_take_succ S) t);clear U S t;unfold BB at T ah;obtain⟨p1,p2,p3⟩:=mul_bd O T;go_wp2_with fail;have ec:(x:Int)*y+o+k=((x*y+o+k:Nat):Int):=(by simp);rw[ec]
   go_roundg (m-(g+1))
   case measure=>omega
   refine⟨g+1,(x*y+o+k)/BB,l.set (i+g) ((x*y+o+k)%BB),by go_num,?_,?_,by omega,rfl,hI q.o.1,hI q.o.2.1,hI ?_,hI q.o.2.2.1,hI q.o.2.2.2,hI (E.o.setCell (Nat.le_refl _) _)⟩
   ·
    unfold BB;generalize x*y+o+k=s;simp
   ·
    unfold BB;generalize x*y=p at *;omega
   have:=blkU_set r.o (i+g) ((x*y+o+k)%BB);rw[show(((x*y+o+k)%BB:Nat):Int)=((x*y+o+k:Nat):Int)%4294967296 by unfold BB;generalize x*y+o+k=s;simp]at this;exact this
  obtain rfl:g=m:=by omega
  have V:=hI Q.o;rw[List.take_of_length_le (by rw[G.o.len];omega)]at V;have q:=hI (mul_out z.o C.o V.o L.o D.o hin ad (val_take_succ HX.o));have ai:wr.cell? ⟨w.heap.size,i+g,none⟩=some (.int .u32 (0:Nat)):=blkU_cell r.o (D.o _ (by omega) (by omega));have aj:wr.frozen? ⟨w.heap.size,i+g,none⟩=false:=r.o.frozen _;go_wp2
  go_roundg (n-(i+1))
  case measure=>omega
  case rel=>exact⟨i+1,l.set (i+g) k,by go_num,by omega,rfl,hI q.o.1,hI q.o.2.1,hI (blkU_set r.o _ k),hI q.o.2.2.1,hI q.o.2.2.2,hI (E.o.setCell (Nat.le_refl _) _)⟩
 obtain rfl:i=n:=by omega
 go_wp2;go_ret;refine⟨_,_,_,u,rfl,hI (Nw.of_blk J.o I.o (Nat.le_refl _) H.o (by unfold maxLen;omega)),hI ?_,by omega,v⟩;have h1:=L.o
 rwa [List.take_of_length_le (by rw[F.o.len];omega)]at h1
def ShortPost(n d v:Nat)(w:World)(e:Ending)(w':World):Prop:=
  ∃(A:Option Addr) (c:Nat) (l:List Nat),e= .returned (.tuple #[.l A n c,.int .u32 (v%d:Nat)])∧Hid (Nw w' tU w.heap.size A n c l)∧Hid (val l=v/d)∧Hid (Below w.heap.size w w')
def ShortRel(w:World)(g n d:Nat)(a:List Nat)(k:Nat)(rv iv:Value)(wr:World):Prop:=
  ∃(r:Nat) (l:List Nat),iv= .i ((k:Int)-1)∧rv= .int .u32 r∧r<d∧k≤n∧Hid (l.length=n)∧Hid (ok l)∧Hid (Blk wr g tU (UA l))∧
    Hid (val (l.drop k)*d+r=val (a.drop k))∧Hid (Below w.heap.size w wr)
theorem set_drop_succ{α:Type}(l:List α)(j:Nat)(x:α):(l.set j x).drop (j+1)=l.drop (j+1):=by
 rw[List.drop_set_of_lt (by omega)]
theorem short_step{l a:List Nat}{j n d r x:Nat}(hl:l.length=n)(hok:ok l)(hj:j<n)(hr:r<d)(hv:val (l.drop (j+1))*d+r=val (a.drop (j+1)))(hx:a[j]? =some x)(hxB:x<BB):
 (l.set j ((r*BB+x)/d)).length=n∧ok (l.set j ((r*BB+x)/d))∧val ((l.set j ((r*BB+x)/d)).drop j)*d+(r*BB+x)%d=val (a.drop j)∧(r*BB+x)/d<BB:=by
 have hq:(r*BB+x)/d<BB:=by
  rw[Nat.div_lt_iff_lt_mul (by omega)];have:(r+1)*BB≤d*BB:=Nat.mul_le_mul_right _ hr;rw[Nat.mul_comm d]at this;rw[Nat.add_mul]at this
  omega
 refine⟨by simp[hl],ok_set hok _ _ hq,?_,hq⟩;have h1:(l.set j ((r*BB+x)/d))[j]? =some ((r*BB+x)/d):=(by rw[List.getElem?_set_self (by omega)]);rw[val_drop h1,val_drop hx,set_drop_succ,←hv,Nat.add_mul,Nat.mul_assoc,Nat.mul_add];have e:=Nat.div_add_mod (r*BB+x) d;rw[Nat.mul_comm d]at e;rw[Nat.mul_comm BB r]
 omega
def DivPost(h l y:Nat)(w:World)(e:Ending)(w':World):Prop:=∃q r:Nat,e= .returned (.tuple #[.int .u32 q,.int .u32 r])∧Hid ((h*BB+l)/y=q)∧Hid ((h*BB+l)%y=r)∧r<y∧Hid (∃n,w'=w.drewN n)
theorem div32_nat(h l y:Nat)(w:World)(hh:h<y)(hl:l<4294967296)(hy:y<4294967296):
 Calls Tryz.prog 272 #[.int .u32 h,.int .u32 l,.int .u32 y] w (DivPost h l y w):=by
 refine(div32_any h l y w hh hl hy).mono ?_;rintro e w1 ⟨rfl,hw⟩;exact⟨_,_,rfl,hI rfl,hI rfl,Nat.mod_lt _ (by omega),hI hw⟩
theorem short_any(A:Option Addr)(n c d:Nat)(a:List Nat)(w:World)(ha:Sl w A n c a)(hn:n≤100000)(hd0:0<d)(hd:d<4294967296):
 Calls Tryz.prog 224 #[.l A n c,.int .u32 d] w (ShortPost n d (val a) w):=by
 have D:=hI ha;clear ha;have N:=make_u32 n n (n:Int) (n:Int) (by omega) (by omega) (by omega) (by omega)
 go_in
 go_wp2;clear N
 go_loopg [7,8] n (ShortRel w w.heap.size n d a)
 case atStart=>exact⟨0,zeros n,rfl,rfl,hd0,by omega,hI (zeros_len _),hI (ok_zeros _),(hI (Blk.new w tU (UA (zeros n)))),hI (by rw[List.drop_eq_nil_of_le (by rw[zeros_len];omega),List.drop_eq_nil_of_le (by rw[D.o.len];omega)];simp[val_nil]),(hI ((Below.refl w.heap.size w).alloc (Nat.le_refl _) (.cells (UA (zeros n)) tU)))⟩
 obtain⟨r,l,rfl,rfl,g,W,m,E,F,G,s⟩:=hrel
 cases gk with
 | zero=>
  rw[show((0:Nat):Int)-1= -1 by omega];have k:=G.o;rw[List.drop_zero,List.drop_zero]at k;have t:=hI (show val a/d=val l by rw[←k,Nat.mul_comm,Nat.mul_add_div hd0,Nat.div_eq_of_lt g];omega);have u:=hI (show val a%d=r by rw[←k,Nat.mul_comm,Nat.mul_add_mod,Nat.mod_eq_of_lt g]);clear k;go_wp2;refine bodyPost_ret (v:= .tuple #[.l (some ⟨w.heap.size,0,none⟩) n n,.int .u32 r]) (by simp[results,Tryz.results224,go_sem]) rfl ?_
  exact⟨_,_,l,by rw[u.o],hI (Nw.of_blk F.o E.o (Nat.le_refl _) m.o (by unfold maxLen;omega)),hI t.o.symm,s⟩
 | succ j=>
  rw[show((j+1:Nat):Int)-1=j by omega];obtain⟨H,O,x,P,Q,I,y,J⟩:=D.o.at_ (i:=j) (by omega);subst P;have X:wr.cell? ⟨H,O+j,none⟩=some (.int .u32 x):=(s.o.cell (p:=⟨H,_,none⟩) Q).trans J;have b:=hI (short_step m.o E.o (by omega) g G.o I y);clear J I;unfold BB at y
  obtain⟨o,L⟩:∃o,l[j]? =some o:=⟨_,List.getElem?_eq_getElem (by rw[m.o];omega)⟩
  have R:=hI L;clear L;go_wp2_with fail;refine(div32_nat r x d _ g y hd).mono ?_;rintro e w1 ⟨M,S,rfl,t,u,T,z⟩;have B:=hI (show Blk w1 w.heap.size tU (UA l)by obtain⟨q,C⟩:=z.o;rw[C];exact F.o.drewN q);have U:=hI (show Below w.heap.size w w1 by obtain⟨q,C⟩:=z.o;rw[C];exact below_drewN s.o q);rw[t.o,u.o]at b;have V:=b.o.2.2.2;unfold BB at V
  clear z;have Y:w1.cell? ⟨w.heap.size,j,none⟩=some (.int .u32 o):=blkU_cell B.o R.o;have Z:w1.frozen? ⟨w.heap.size,j,none⟩=false:=B.o.frozen j
  go_wp2
  go_roundg j
  case measure=>omega
  case rel=>exact⟨S,l.set j M,rfl,rfl,T,by omega,hI b.o.1,hI b.o.2.1,hI (blkU_set B.o j M),hI b.o.2.2.1,hI (U.o.setCell (Nat.le_refl _) _)⟩
