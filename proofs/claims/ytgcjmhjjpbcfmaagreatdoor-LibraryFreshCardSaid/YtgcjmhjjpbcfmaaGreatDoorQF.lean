import Derived.Test.YtgcjmhjjpbcfmaaGreatDoorQE
import Derived.Shelf.Spec.TrailingZeros
import Derived.Deep.DeepCutAuto
set_option linter.unusedVariables false
set_option maxHeartbeats 4000000
namespace Go.Fl.Dy
open Go.Fl.Nm
def v2(n:Nat):Nat:=if _h:n=0∨n%2=1 then 0 else v2 (n/2)+1
termination_by n
decreasing_by omega
def od(n:Nat):Nat:=n/2^v2 n
theorem v2_odd{n:Nat}(h:n%2=1):v2 n=0:=by rw[v2,dif_pos (.inr h)]
theorem v2_even{n:Nat}(h:n≠0):v2 (2*n)=v2 n+1:=by
 rw[v2,dif_neg (by omega),show 2*n/2=n by omega]
theorem v2_pow{m:Nat}(hm:m%2=1)(k:Nat):v2 (2^k*m)=k:=by
 induction k with
 | zero=>rw[Nat.pow_zero,Nat.one_mul,v2_odd hm]
 | succ k ih=>
  have h0:0<2^k*m:=Nat.mul_pos (Nat.two_pow_pos k) (by omega);rw[Nat.pow_succ,Nat.mul_comm (2^k) 2,Nat.mul_assoc,v2_even (by omega),ih]
theorem v2_unique{n k m:Nat}(hm:m%2=1)(h:n=2^k*m):v2 n=k∧od n=m:=by
 have hv:v2 n=k:=(by rw[h];exact v2_pow hm k);refine⟨hv,?_⟩;unfold od;rw[hv,h,Nat.mul_div_cancel_left _ (Nat.two_pow_pos k)]
theorem v2_spec:∀{n:Nat},n≠0→n=2^v2 n*od n∧od n%2=1:=by
 intro n
 induction n using Nat.strongRecOn with
 | _ n ih=>
  intro h
  by_cases h1:n%2=1
  ·
   have:od n=n:=by unfold od;rw[v2_odd h1];simp
   rw[this,v2_odd h1];simp[h1]
  obtain⟨m,rfl⟩:∃m,n=2*m:=⟨n/2,by omega⟩
  obtain⟨h2,h3⟩:=ih m (by omega) (by omega);have h4:2*m=2^(v2 m+1)*od m:=(by rw[Nat.pow_succ,Nat.mul_comm (2^v2 m) 2,Nat.mul_assoc,←h2]);obtain⟨h5,h6⟩:=v2_unique h3 h4;rw[h5,h6];exact⟨h4,h3⟩
theorem od_ne{n:Nat}(h:n≠0):od n≠0:=by have:=(v2_spec h).2;omega
theorem blen_shl{x:Nat}(k:Nat)(hx:x≠0):blen (2^k*x)=k+blen x:=by
 have:=blen_mul (r:=0) hx (Nat.two_pow_pos k)
 simpa using this
theorem blen_od{n:Nat}(h:n≠0):blen n=v2 n+blen (od n):=by
 have:=blen_shl (v2 n) (od_ne h);rw[←(v2_spec h).1]at this;exact this
theorem v2_lt{n:Nat}(h:n≠0):v2 n<blen n:=by have:=blen_od h;have:=blen_pos (od_ne h);omega
theorem blen_mono{a b:Nat}(h:a≤b):blen a≤blen b:=by
 by_cases h0:b=0
 ·
  subst h0;rw[show a=0 by omega];exact Nat.le_refl _
 exact blen_le (Nat.lt_of_le_of_lt h (blen_spec h0).2)
theorem blen_lt{n k:Nat}(h:blen n≤k):n<2^k:=by
 by_cases h0:n=0
 ·
  subst h0;exact Nat.two_pow_pos k
 exact Nat.lt_of_lt_of_le (blen_spec h0).2 (Nat.pow_le_pow_right (by omega) h)
theorem blen_zero_iff{n:Nat}:blen n=0↔n=0:=by
 constructor
 ·
  intro h
  by_cases h0:n=0
  ·
   exact h0
  have:=blen_pos h0;omega
 rintro rfl;rfl
theorem limbs_bits{n k:Nat}(h:blen n≤32*k):(limbs n).length≤k:=by
 refine limbs_len_le ?_;rw[BB_pow,←Nat.pow_mul];exact blen_lt h
theorem bits_limbs{n k:Nat}(h:(limbs n).length≤k):blen n≤32*k:=by
 have:=limbs_lt h;rw[BB_pow,←Nat.pow_mul]at this;exact blen_le this
structure D where
  neg:Bool
  k:Nat
  e:Int
def canon(neg:Bool)(k:Nat)(e:Int):D:=if k=0 then⟨false,0,0⟩else⟨neg,od k,e+v2 k⟩
def inR(k:Nat)(e:Int):Bool:=decide (k=0)||(decide (blen k≤4096)&&decide (-16384≤e)&&decide (e≤16384)&&decide ((blen k:Int)+e≤16384))
def vld(d:D):Prop:=(d.k=0∧d.neg=false∧d.e=0)∨(d.k%2=1∧blen d.k≤4096∧ -16384≤d.e∧d.e≤16384∧(blen d.k:Int)+d.e≤16384)
instance (d:D):Decidable (vld d):=by unfold vld;infer_instance
theorem vld_zero:vld ⟨false,0,0⟩:= .inl ⟨rfl,rfl,rfl⟩
theorem inR_iff{k:Nat}{e:Int}(h:k≠0):inR k e=true↔blen k≤4096∧ -16384≤e∧e≤16384∧(blen k:Int)+e≤16384:=by
 simp[inR,h,and_assoc]
theorem canon_zero(neg:Bool)(e:Int):canon neg 0 e=⟨false,0,0⟩:=rfl
theorem canon_pos{neg:Bool}{k:Nat}{e:Int}(h:k≠0):canon neg k e=⟨neg,od k,e+v2 k⟩:=by unfold canon;rw[if_neg h]
theorem canon_vld{neg:Bool}{k:Nat}{e:Int}(h:inR (canon neg k e).k (canon neg k e).e=true):vld (canon neg k e):=by
 by_cases h0:k=0
 ·
  subst h0;exact vld_zero
 rw[canon_pos h0]at h ⊢;exact .inr ⟨(v2_spec h0).2,(inR_iff (od_ne h0)).1 h⟩
def vldL(neg:Bool)(l:List Nat)(e:Int):Bool:=decide (l=limbs (val l)∧vld ⟨neg,val l,e⟩)
theorem vldL_iff{neg:Bool}{l:List Nat}{e:Int}:vldL neg l e=true↔l=limbs (val l)∧vld ⟨neg,val l,e⟩:=by simp[vldL]
theorem vldL_of{d:D}(h:vld d):vldL d.neg (limbs d.k) d.e=true:=by rw[vldL_iff,val_limbs];exact⟨rfl,h⟩
theorem val_mod{x:Nat}{l:List Nat}(h:ok l)(hx:l[0]? =some x):val l%2=x%2:=by
 cases l with
 | nil=>cases hx
 | cons y l=>simp at hx;subst hx;rw[val_cons,BB_eq];omega
theorem limbs_of_top{l:List Nat}{x:Nat}(h:ok l)(hx:l[l.length-1]? =some x)(h0:x≠0):l=limbs (val l):=by
 have hl:0<l.length:=by
  rcases Nat.eq_zero_or_pos l.length with h | h
  ·
   rw[List.eq_nil_of_length_eq_zero h]at hx;cases hx
  exact h
 have:=tl_unique (Nat.le_refl l.length) (by simp) (fun y _ hy=>by rw[hx]at hy;injection hy with hy;omega);have h2:=trim_limbs h;rw[this,List.take_length]at h2;exact h2
theorem limbs_top{n x:Nat}(hx:(limbs n)[(limbs n).length -1]? =some x):x≠0:=by
 have h:=tl_of_limbs n
 have hl:0<(limbs n).length:=by
  rcases Nat.eq_zero_or_pos (limbs n).length with h | h
  ·
   rw[List.eq_nil_of_length_eq_zero h]at hx;cases hx
  exact h
 exact tl_last (l:=limbs n) (by omega) (by rw[h];exact hx)
theorem vldL_pos{neg:Bool}{l:List Nat}{e:Int}{x y:Nat}(h:ok l)(hx:l[0]? =some x)(hy:l[l.length-1]? =some y):
 vldL neg l e=(decide (l.length≤256)&&decide (x%2=1)&&decide (y≠0)&&inR (val l) e):=by
 rw[Bool.eq_iff_iff,vldL_iff];simp only[Bool.and_eq_true,decide_eq_true_eq]
 constructor
 ·
  rintro⟨h1,h2⟩;have hne:l≠[]:=(by rintro rfl;cases hx)
  have h0:val l≠0:=fun hz=>hne (by rw[h1,hz,limbs_zero])
  rcases h2 with⟨hz,_⟩ | ⟨h3,h4,h5⟩
  ·
   exact absurd hz h0
  refine⟨⟨⟨?_,?_⟩,?_⟩,(inR_iff h0).2 ⟨h4,h5⟩⟩
  ·
   rw[h1];exact limbs_bits (Nat.le_trans h4 (by omega))
  ·
   rw[←val_mod h hx];exact h3
  rw[h1]at hy;exact limbs_top hy
 rintro⟨⟨⟨h1,h2⟩,h3⟩,h4⟩;have h5:=limbs_of_top h hy h3;have h6:val l%2=1:=(by rw[val_mod h hx];exact h2);exact⟨h5,.inr ⟨h6,(inR_iff (k:=val l) (by omega)).1 h4⟩⟩
theorem vldL_nil(neg:Bool)(e:Int):vldL neg [] e=(!neg&&decide (e=0)):=by
 rw[Bool.eq_iff_iff,vldL_iff]
 simp[val_nil,limbs_zero,vld]
theorem v2_limbs{l:List Nat}{i x:Nat}(hz:∀y∈l.take i,y=0)(hx:l[i]? =some x)(h0:x≠0)(hB:x<BB):v2 (val l)=32*i+v2 x:=by
 have hi:i<l.length:=by
  rcases Nat.lt_or_ge i l.length with h | h
  ·
   exact h
  rw[List.getElem?_eq_none h]at hx;cases hx
 have h1:=val_split l i (by omega);rw[val_zero_of hz,Nat.zero_add,val_drop hx,BB_pow,←Nat.pow_mul]at h1;obtain⟨h2,h3⟩:=v2_spec h0
 have hv:v2 x<32:=by
  have h4:=v2_lt h0;have:blen x≤32:=blen_le (by rw[BB_eq]at hB;omega)
  omega
 have h5:x+2^32*val (l.drop (i+1))=2^v2 x*(od x+2^(32-v2 x)*val (l.drop (i+1))):=by
  rw[Nat.mul_add,←h2,←Nat.mul_assoc,←Nat.pow_add,show v2 x+(32-v2 x)=32 by omega]
 have h6:(od x+2^(32-v2 x)*val (l.drop (i+1)))%2=1:=by
  obtain⟨j,hj⟩:∃j,32-v2 x=j+1:=⟨32-v2 x-1,by omega⟩
  rw[hj,Nat.pow_succ,Nat.mul_comm (2^j) 2,Nat.mul_assoc]
  omega
 refine(v2_unique h6 ?_).1;rw[h1,h5,←Nat.mul_assoc,←Nat.pow_add]
def chk(d:D):D×Int:=if inR d.k d.e then(d,0)else(⟨false,0,0⟩,9)
def negD(d:D):D:=if d.k=0 then⟨false,0,0⟩else⟨!d.neg,d.k,d.e⟩
theorem negD_vld{d:D}(h:vld d):vld (negD d):=by
 unfold negD
 split
 ·
  exact vld_zero
 rename_i h0
 rcases h with⟨h1,_⟩ | h1
 ·
  exact absurd h1 h0
 exact .inr h1
theorem chk_vld(neg:Bool)(k:Nat)(e:Int):vld (chk (canon neg k e)).1:=by
 unfold chk
 split
 ·
  rename_i h;exact canon_vld h
 exact vld_zero
def cutU(m:Nat)(e:Int)(p:Nat):Int:=max (e+blen m-p) (-16384)
def cutQ(m:Nat)(e:Int)(more:Bool)(p:Nat)(up:Bool):Nat:=
  if cutU m e p≤e then 2^(e-cutU m e p).toNat*m+(if up&&more then 1 else 0)
  else m/2^(cutU m e p-e).toNat+(if up&&(more||decide (m%2^(cutU m e p-e).toNat≠0))then 1 else 0)
def cutR(m:Nat)(e:Int)(more:Bool)(p:Nat)(up:Bool):D×Int:=
  if 16384<(blen (cutQ m e more p up):Int)+cutU m e p then
    if up then(⟨false,0,0⟩,9)else chk (canon false (2^p-1) (16384-p))
  else chk (canon false (cutQ m e more p up) (cutU m e p))
def sgnR(neg:Bool)(m:Nat)(e:Int)(more:Bool)(p:Nat)(up:Bool):D×Int:=
  let r:=cutR m e more p (up !=neg)
  if r.2=0∧neg=true then(negD r.1,0)else r
theorem cutR_vld(m:Nat)(e:Int)(more:Bool)(p:Nat)(up:Bool):vld (cutR m e more p up).1:=by
 unfold cutR
 split
 ·
  split
  ·
   exact vld_zero
  exact chk_vld _ _ _
 exact chk_vld _ _ _
theorem sgnR_vld(neg:Bool)(m:Nat)(e:Int)(more:Bool)(p:Nat)(up:Bool):vld (sgnR neg m e more p up).1:=by
 unfold sgnR;simp only
 split
 ·
  exact negD_vld (cutR_vld _ _ _ _ _)
 exact cutR_vld _ _ _ _ _
def divK(a b:D)(p:Nat):Nat:=p+3+blen b.k-blen a.k
def divR(a b:D)(p:Nat)(up:Bool):D×Int:=
  if b.k=0 then(⟨false,0,0⟩,10)else if a.k=0 then(⟨false,0,0⟩,0)
  else sgnR (a.neg !=b.neg) (2^divK a b p*a.k/b.k) (a.e-divK a b p-b.e) (decide (2^divK a b p*a.k%b.k≠0)) p up
def Fl(n d t:Nat)(u:Int):Prop:=∃x y:Nat,(x:Int)-y=u∧t*d*2^x≤n*2^y∧n*2^y<(t+1)*d*2^x
def Ex(n d t:Nat)(u:Int):Prop:=∃x y:Nat,(x:Int)-y=u∧t*d*2^x=n*2^y
theorem pow_le_of{a b d:Nat}(hd:0<d)(h:d*2^a<d*2^b):a<b:=by
 have:=Nat.lt_of_mul_lt_mul_left h;exact(Nat.pow_lt_pow_iff_right (by omega)).1 this
theorem Fl.le{n d t t' p:Nat}{u u':Int}(hd:0<d)(h:Fl n d t u)(h':Fl n d t' u')(ht:t<2^p)(ht':2^(p-1)≤t')(hp:0<p):u'≤u:=by
 obtain⟨x,y,hu,_,h2⟩:=h;obtain⟨x',y',hu',h1',_⟩:=h'
 have a1:n*2^y<d*2^(p+x):=by
  refine Nat.lt_of_lt_of_le h2 ?_;rw[Nat.pow_add,←Nat.mul_assoc,Nat.mul_comm (t+1) d];exact Nat.mul_le_mul_right _ (Nat.mul_le_mul_left _ (by omega))
 have a2:d*2^(p-1+x')≤n*2^y':=by
  refine Nat.le_trans ?_ h1';rw[Nat.pow_add,←Nat.mul_assoc,Nat.mul_comm t' d];exact Nat.mul_le_mul_right _ (Nat.mul_le_mul_left _ ht')
 have a3:n*2^y*2^y'<d*2^(p+x+y'):=by
  rw[Nat.pow_add 2 (p+x) y',←Nat.mul_assoc];exact Nat.mul_lt_mul_of_pos_right a1 (Nat.two_pow_pos _)
 have a4:d*2^(p-1+x'+y)≤n*2^y*2^y':=by
  rw[Nat.pow_add 2 (p-1+x') y,←Nat.mul_assoc,Nat.mul_assoc n,Nat.mul_comm (2^y) (2^y'),←Nat.mul_assoc];exact Nat.mul_le_mul_right _ a2
 have:=pow_le_of hd (Nat.lt_of_le_of_lt a4 a3)
 omega
theorem Fl.tle{n d t t':Nat}{u:Int}(hd:0<d)(h:Fl n d t u)(h':Fl n d t' u):t≤t':=by
 obtain⟨x,y,hu,h1,_⟩:=h;obtain⟨x',y',hu',_,h2'⟩:=h'
 have a1:t*d*2^(x+y')≤n*2^(y+y'):=by
  rw[Nat.pow_add,Nat.pow_add,←Nat.mul_assoc,←Nat.mul_assoc];exact Nat.mul_le_mul_right _ h1
 have a2:n*2^(y'+y)<(t'+1)*d*2^(x'+y):=by
  rw[Nat.pow_add,Nat.pow_add,←Nat.mul_assoc,←Nat.mul_assoc];exact Nat.mul_lt_mul_of_pos_right h2' (Nat.two_pow_pos _)
 have e1:x+y'=x'+y:=(by omega);rw[e1,Nat.add_comm y y']at a1;have:=Nat.lt_of_mul_lt_mul_right (Nat.lt_of_le_of_lt a1 a2);have:=Nat.lt_of_mul_lt_mul_right this
 omega
theorem Fl.unique{n d t t' p:Nat}{u u':Int}(hd:0<d)(h:Fl n d t u)(h':Fl n d t' u')(ht:t<2^p)(ht':t'<2^p)(hl:2^(p-1)≤t)(hl':2^(p-1)≤t')(hp:0<p):t=t'∧u=u':=by
 have h1:=Fl.le hd h h' ht hl' hp;have h2:=Fl.le hd h' h ht' hl hp
 obtain rfl:u=u':=by omega
 exact⟨Nat.le_antisymm (Fl.tle hd h h') (Fl.tle hd h' h),rfl⟩
theorem Ex.all{n d t:Nat}{u:Int}(h:Ex n d t u){x y:Nat}(hu:(x:Int)-y=u):t*d*2^x=n*2^y:=by
 obtain⟨x',y',hu',h'⟩:=h;have e:x'+y=x+y':=(by omega)
 have:t*d*2^x*2^y'=n*2^y*2^y':=by
  rw[Nat.mul_assoc (t*d),←Nat.pow_add,←e,Nat.pow_add,←Nat.mul_assoc,h',Nat.mul_assoc,Nat.mul_assoc,Nat.mul_comm (2^y')]
 exact Nat.eq_of_mul_eq_mul_right (Nat.two_pow_pos y') this
theorem Fl.all{n d t:Nat}{u:Int}(h:Fl n d t u){x y:Nat}(hu:(x:Int)-y=u):t*d*2^x≤n*2^y∧n*2^y<(t+1)*d*2^x:=by
 obtain⟨x',y',hu',h1,h2⟩:=h;have e:x'+y=x+y':=(by omega)
 constructor
 ·
  have:t*d*2^x*2^y'≤n*2^y*2^y':=by
   rw[Nat.mul_assoc (t*d),←Nat.pow_add,←e,Nat.pow_add,←Nat.mul_assoc,Nat.mul_assoc n,Nat.mul_comm (2^y),←Nat.mul_assoc];exact Nat.mul_le_mul_right _ h1
  exact Nat.le_of_mul_le_mul_right this (Nat.two_pow_pos y')
 have:n*2^y*2^y'<(t+1)*d*2^x*2^y':=by
  rw[Nat.mul_assoc ((t+1)*d),←Nat.pow_add,←e,Nat.pow_add,←Nat.mul_assoc,Nat.mul_assoc n,Nat.mul_comm (2^y),←Nat.mul_assoc];exact Nat.mul_lt_mul_of_pos_right h2 (Nat.two_pow_pos _)
 exact Nat.lt_of_mul_lt_mul_right this
theorem Fl.of_div{n d:Nat}(hd:0<d)(j i:Nat):Fl n d (n*2^j/d/2^i) ((i:Int)-j):=by
 refine⟨i,j,rfl,?_⟩;rw[Nat.div_div_eq_div_mul];have hp:0<d*2^i:=Nat.mul_pos hd (Nat.two_pow_pos i);have h1:=Nat.div_mul_le_self (n*2^j) (d*2^i);have h2:=Nat.lt_div_mul_add (a:=n*2^j) hp;rw[Nat.mul_assoc,Nat.mul_assoc];refine⟨h1,?_⟩;rw[Nat.add_mul,Nat.one_mul];exact h2
theorem Ex.of_div{n d:Nat}(hd:0<d)(j i:Nat):Ex n d (n*2^j/d/2^i) ((i:Int)-j)↔n*2^j%d=0∧n*2^j/d%2^i=0:=by
 have e:=Nat.div_add_mod (n*2^j) d;have e2:=Nat.div_add_mod (n*2^j/d) (2^i);have hr:=Nat.mod_lt (n*2^j) hd
 have key:n*2^j=n*2^j/d/2^i*d*2^i+(d*(n*2^j/d%2^i)+n*2^j%d):=by
  rw[Nat.mul_assoc,Nat.mul_comm d (2^i),←Nat.mul_assoc,Nat.mul_comm _ (2^i),Nat.mul_comm (2^i*_) d,←Nat.add_assoc,←Nat.mul_add,e2,e]
 constructor
 ·
  intro h;have:=Ex.all h (x:=i) (y:=j) rfl;have h0:d*(n*2^j/d%2^i)+n*2^j%d=0:=(by omega)
  have h1:n*2^j/d%2^i=0:=by
   rcases Nat.eq_zero_or_pos (n*2^j/d%2^i)with h | h
   ·
    exact h
   have:=Nat.mul_pos hd h;omega
  exact⟨by omega,h1⟩
 rintro⟨h1,h2⟩;refine⟨i,j,rfl,?_⟩;rw[h1,h2]at key
 omega
def Enc(n d p t:Nat)(u:Int):Prop:=Fl n d t u∧2^(p-1)≤t∧t<2^p
theorem Enc.unique{n d p t t':Nat}{u u':Int}(hd:0<d)(hp:0<p)(h:Enc n d p t u)(h':Enc n d p t' u'):t=t'∧u=u':=
 Fl.unique hd h.1 h'.1 h.2.2 h'.2.2 h.2.1 h'.2.1 hp
theorem Fl.scale{a b t:Nat}{u:Int}(i j:Nat)(h:Fl a b t u):Fl (2^i*a) (2^j*b) t (u+i-j):=by
 obtain⟨x,y,hu,h1,h2⟩:=h;refine⟨x+i,y+j,by omega,?_,?_⟩
 ·
  have:t*b*2^x*(2^i*2^j)≤a*2^y*(2^i*2^j):=Nat.mul_le_mul_right _ h1;refine Nat.le_trans (Nat.le_of_eq ?_) (Nat.le_trans this (Nat.le_of_eq ?_))
  ·
   rw[Nat.pow_add];ac_rfl
  rw[Nat.pow_add];ac_rfl
 have:a*2^y*(2^i*2^j)<(t+1)*b*2^x*(2^i*2^j):=Nat.mul_lt_mul_of_pos_right h2 (Nat.mul_pos (Nat.two_pow_pos _) (Nat.two_pow_pos _));refine Nat.lt_of_le_of_lt (Nat.le_of_eq ?_) (Nat.lt_of_lt_of_le this (Nat.le_of_eq ?_))
 ·
  rw[Nat.pow_add];ac_rfl
 rw[Nat.pow_add];ac_rfl
theorem Ex.scale{a b t:Nat}{u:Int}(i j:Nat):Ex (2^i*a) (2^j*b) t (u+i-j)↔Ex a b t u:=by
 constructor
 ·
  intro h
  obtain⟨x,y,hu⟩:∃x y:Nat,(x:Int)-y=u:=⟨u.toNat,(-u).toNat,by omega⟩
  refine⟨x,y,hu,?_⟩;have:=Ex.all h (x:=x+i) (y:=y+j) (by omega)
  have h2:t*b*2^x*(2^i*2^j)=a*2^y*(2^i*2^j):=by
   refine Eq.trans ?_ (Eq.trans this ?_)
   ·
    rw[Nat.pow_add];ac_rfl
   rw[Nat.pow_add];ac_rfl
  exact Nat.eq_of_mul_eq_mul_right (Nat.mul_pos (Nat.two_pow_pos _) (Nat.two_pow_pos _)) h2
 rintro⟨x,y,hu,h⟩;refine⟨x+i,y+j,by omega,?_⟩;have h2:t*b*2^x*(2^i*2^j)=a*2^y*(2^i*2^j):=(by rw[h]);refine Eq.trans ?_ (Eq.trans h2 ?_)
 ·
  rw[Nat.pow_add];ac_rfl
 rw[Nat.pow_add];ac_rfl
theorem blen_div{x y:Nat}(hy:y≠0)(h:blen y<blen x):blen x-blen y≤blen (x/y):=by
 have hx:x≠0:=(by intro h0;rw[h0,blen_zero]at h;omega);have h1:=(blen_spec hx).1;have h2:=(blen_spec hy).2
 have:2^(blen x-1-blen y)≤x/y:=by
  rw[Nat.le_div_iff_mul_le (by omega)];refine Nat.le_trans ?_ h1;refine Nat.le_trans (Nat.mul_le_mul_left _ (Nat.le_of_lt h2)) ?_;rw[←Nat.pow_add];exact Nat.le_of_eq (by congr 1;omega)
 have h3:=blen_mono this
 have h4:blen (2^(blen x-1-blen y))=blen x-1-blen y+1:=by
  have:=blen_shl (x:=1) (blen x-1-blen y) (by omega);rw[Nat.mul_one]at this;rw[this]
  rfl
 omega
theorem top_bits{m p:Nat}(hp:0<p)(h:p≤blen m):2^(p-1)≤m/2^(blen m-p)∧m/2^(blen m-p)<2^p:=by
 have hm:m≠0:=(by intro h0;rw[h0,blen_zero]at h;omega);obtain⟨h1,h2⟩:=blen_spec hm
 constructor
 ·
  rw[Nat.le_div_iff_mul_le (Nat.two_pow_pos _),←Nat.pow_add,show p-1+(blen m-p)=blen m-1 by omega];exact h1
 rw[Nat.div_lt_iff_lt_mul (Nat.two_pow_pos _),←Nat.pow_add,show p+(blen m-p)=blen m by omega];exact h2
theorem inR_of{k:Nat}{e:Int}(h1:blen k≤4096)(h2: -16384≤e)(h3:e+blen k≤16384)(h4:e≤16384):inR k e=true:=by
 by_cases h:k=0
 ·
  simp[inR,h]
 exact(inR_iff h).2 ⟨h1,h2,h4,by omega⟩
theorem chk_of{neg:Bool}{k:Nat}{e:Int}(h1:blen k≤4096)(h2: -16384≤e)(h3:e+blen k≤16384):chk (canon neg k e)=(canon neg k e,0):=by
 unfold chk;rw[if_pos]
 by_cases h:k=0
 ·
  subst h;rfl
 rw[canon_pos h];have:=blen_od h;have:=blen_pos (od_ne h);exact inR_of (k:=od k) (e:=e+v2 k) (by omega) (by omega) (by omega) (by omega)
def endQ(t:Nat)(ex up:Bool):Nat:=if up&& !ex then t+1 else t
theorem div_enc{n d p t:Nat}{u:Int}{ex:Bool}(neg up:Bool)(hn:n≠0)(hd:d≠0)(hnb:n≤1073741824)(hdb:d≤1073741824)(hp:8≤p)(hp2:p≤512)(h:Enc n d p t u)(hex:ex=true↔Ex n d t u):
 divR (canon neg n 0) (canon false d 0) p up=(canon neg (endQ t ex (up !=neg)) u,0):=by
 have s:=v2_spec hn;have v:=v2_spec hd;have c:=od_ne hn;have f:=od_ne hd;have G:blen n≤31:=blen_le (by omega);have H:blen d≤31:=blen_le (by omega);have I:=blen_od hn;have J:=blen_od hd;have L:=blen_pos c;have M:=blen_pos f;rw[canon_pos hn,canon_pos hd]
 generalize hk:divK ⟨neg,od n,0+v2 n⟩ ⟨false,od d,0+v2 d⟩ p=k
 have N:k=p+3+blen (od d)-blen (od n):=hk.symm;have O:blen (2^k*od n)=k+blen (od n):=blen_shl k c;have P:=blen_div f (x:=2^k*od n) (by omega);have Q:=blen_mono (Nat.div_le_self (2^k*od n) (od d))
 generalize hm:2^k*od n/od d=m at *
 have y:cutU m (0+(v2 n:Int)-k-(0+v2 d)) p=0+(v2 n:Int)-k-(0+v2 d)+blen m-p:=(by unfold cutU;omega);have z:p≤blen m:=(by omega);obtain⟨A,B⟩:=top_bits (by omega) z;have j:=Fl.of_div (n:=od n) (d:=od d) (by omega) k (blen m-p);have l:=Ex.of_div (n:=od n) (d:=od d) (by omega) k (blen m-p);rw[Nat.mul_comm (od n) (2^k),hm]at j l;have o:=Fl.scale (v2 n) (v2 d) j;have g:=Ex.scale (a:=od n) (b:=od d) (t:=m/2^(blen m-p)) (u:=((blen m-p:Nat):Int)-k) (v2 n) (v2 d);rw[←s.1,←v.1]at o g;obtain⟨C,q⟩:=Enc.unique (by omega) (by omega) h ⟨o,A,B⟩;subst C;rw[←q]at g
 have D:ex= !(decide (2^k*od n%od d≠0)||decide (m%2^(blen m-p)≠0)):=by
  rw[Bool.eq_iff_iff,hex,g,l]
  simp
 have r:cutU m (0+(v2 n:Int)-k-(0+v2 d)) p=u:=by rw[y,q];omega
 have E:∀b,cutQ m (0+(v2 n:Int)-k-(0+v2 d)) (decide (2^k*od n%od d≠0)) p b=endQ (m/2^(blen m-p)) ex b:=by
  intro b;unfold cutQ;rw[r,if_neg (by omega),show(u-(0+(v2 n:Int)-k-(0+v2 d))).toNat=blen m-p by omega,endQ,D];simp only[Bool.not_not]
  split<;>rfl
 have F:∀b,blen (endQ (m/2^(blen m-p)) ex b)≤p+1:=by
  intro b;refine blen_le ?_;have:0<2^p:=Nat.two_pow_pos p;unfold endQ;rw[Nat.pow_succ]
  split<;>omega
 have hcut:∀b,cutR m (0+(v2 n:Int)-k-(0+v2 d)) (decide (2^k*od n%od d≠0)) p b=(canon false (endQ (m/2^(blen m-p)) ex b) u,0):=by
  intro b;have:=F b;unfold cutR;rw[E,r,if_neg (by omega)];exact chk_of (by omega) (by omega) (by omega)
 unfold divR;rw[if_neg (by simpa using f),if_neg (by simpa using c)];simp only;rw[hk,hm,Bool.bne_false];unfold sgnR;rw[hcut]
 have i:endQ (m/2^(blen m-p)) ex (up !=neg)≠0:=by
  have:=Nat.two_pow_pos (p-1);unfold endQ
  split<;>omega
 cases neg with
 | false=>rfl
 | true=>
  simp only[and_self,if_true];rw[canon_pos i,canon_pos i];unfold negD;rw[if_neg (by exact od_ne i)]
  rfl
def cmpI(a b:Int):Int:=if a<b then -1 else if b<a then 1 else 0
theorem cmpI_nat(a b:Nat):cmpI (a:Int) (b:Int)=cmpN a b:=by
 unfold cmpI cmpN
 by_cases h1:a<b
 ·
  rw[if_pos h1,if_pos (by omega)]
 rw[if_neg h1,if_neg (by omega)]
 by_cases h2:b<a
 ·
  rw[if_pos h2,if_pos (by omega)]
 rw[if_neg h2,if_neg (by omega)]
theorem cmpI_mul{a b c:Int}(h:0<c):cmpI (a*c) (b*c)=cmpI a b:=by
 unfold cmpI;have h1:a*c<b*c↔a<b:=⟨fun g=>Int.lt_of_mul_lt_mul_right g (by omega),fun g=>Int.mul_lt_mul_of_pos_right g h⟩;have h2:b*c<a*c↔b<a:=⟨fun g=>Int.lt_of_mul_lt_mul_right g (by omega),fun g=>Int.mul_lt_mul_of_pos_right g h⟩;simp only[h1,h2]
theorem cmpN_mul{a b c:Nat}(h:0<c):cmpN (a*c) (b*c)=cmpN a b:=by
 rw[←cmpI_nat,←cmpI_nat,Int.natCast_mul,Int.natCast_mul,cmpI_mul (by omega)]
def ZE:Nat:=16384
theorem ZE_eq:ZE=16384:=rfl
def mg(x:D):Nat:=x.k*2^(x.e+ZE).toNat
def iv(x:D):Int:=if x.neg then -(mg x:Int)else mg x
def sg(x:D):Int:=if x.k=0 then 0 else if x.neg then -1 else 1
def cmpM(a b:D):Int:=cmpN (2^(a.e-min a.e b.e).toNat*a.k) (2^(b.e-min a.e b.e).toNat*b.k)
def cmpD(a b:D):Int:=if sg a<sg b then -1 else if sg b<sg a then 1 else if sg a=0 then 0 else sg a*cmpM a b
theorem vld_e{x:D}(h:vld x): -16384≤x.e:=by
 rcases h with⟨_,_,h⟩ | ⟨_,_,h,_⟩<;>omega
theorem cmpM_eq{a b:D}(ha: -16384≤a.e)(hb: -16384≤b.e):cmpM a b=cmpN (mg a) (mg b):=by
 unfold cmpM mg;have hZ:=ZE_eq
 generalize ZE=z at *
 have e1:(a.e+z).toNat=(a.e-min a.e b.e).toNat+(min a.e b.e+z).toNat:=(by omega);have e2:(b.e+z).toNat=(b.e-min a.e b.e).toNat+(min a.e b.e+z).toNat:=(by omega);rw[e1,e2,Nat.pow_add,Nat.pow_add,←Nat.mul_assoc,←Nat.mul_assoc,cmpN_mul (Nat.two_pow_pos _),Nat.mul_comm a.k,Nat.mul_comm b.k]
theorem top_lt{a b:D}(ha: -16384≤a.e)(hb: -16384≤b.e)(za:a.k≠0)(zb:b.k≠0)(h:(blen a.k:Int)+a.e<blen b.k+b.e):mg a<mg b:=by
 have h1:=(blen_spec za).2;have h2:=(blen_spec zb).1;have hp:=blen_pos zb;unfold mg;refine Nat.lt_of_lt_of_le (Nat.mul_lt_mul_of_pos_right h1 (Nat.two_pow_pos _)) (Nat.le_trans ?_ (Nat.mul_le_mul_right _ h2));rw[←Nat.pow_add,←Nat.pow_add];have hZ:=ZE_eq
 generalize ZE=z at *
 exact Nat.pow_le_pow_right (by omega) (by omega)
theorem cmpM_lt{a b:D}(ha:vld a)(hb:vld b)(za:a.k≠0)(zb:b.k≠0)(h:(blen a.k:Int)+a.e<blen b.k+b.e):cmpM a b= -1:=by
 rw[cmpM_eq (vld_e ha) (vld_e hb)];exact cmpN_lt (top_lt (vld_e ha) (vld_e hb) za zb h)
theorem cmpM_gt{a b:D}(ha:vld a)(hb:vld b)(za:a.k≠0)(zb:b.k≠0)(h:(blen b.k:Int)+b.e<blen a.k+a.e):cmpM a b=1:=by
 rw[cmpM_eq (vld_e ha) (vld_e hb)];exact cmpN_gt (top_lt (vld_e hb) (vld_e ha) zb za h)
def Z16:Nat:=2^ZE
def encJ(d p:Nat):Nat:=blen d+p
def encM(n d p:Nat):Nat:=n*2^encJ d p/d
def encT(n d p:Nat):Nat:=encM n d p/2^(blen (encM n d p)-p)
def encU(n d p:Nat):Int:=((blen (encM n d p)-p:Nat):Int)-encJ d p
def encX(n d p:Nat):Bool:=decide (n*2^encJ d p%d=0∧encM n d p%2^(blen (encM n d p)-p)=0)
theorem encM_bits{n d p:Nat}(hn:n≠0)(hd:d≠0)(hp:0<p):p≤blen (encM n d p):=by
 have h1:blen (n*2^encJ d p)=encJ d p+blen n:=(by rw[Nat.mul_comm];exact blen_shl _ hn);have h2:=blen_pos hn;have h3:=blen_div hd (x:=n*2^encJ d p) (by rw[h1];unfold encJ;omega);unfold encM;rw[h1]at h3
 unfold encJ at h3 ⊢
 omega
theorem enc_spec{n d p:Nat}(hn:n≠0)(hd:d≠0)(hp:0<p):Enc n d p (encT n d p) (encU n d p):=by
 obtain⟨h1,h2⟩:=top_bits hp (encM_bits hn hd hp);exact⟨Fl.of_div (by omega) _ _,h1,h2⟩
theorem encX_iff{n d p:Nat}(hd:d≠0):encX n d p=true↔Ex n d (encT n d p) (encU n d p):=by
 unfold encX;rw[decide_eq_true_iff];exact(Ex.of_div (by omega) _ _).symm
theorem enc_bound{n d p t:Nat}{u:Int}(hn:n≠0)(hd:d≠0)(hnb:n≤1073741824)(hdb:d≤1073741824)(hp:0<p)(h:Enc n d p t u): -31-(p:Int)≤u∧u≤32-p:=by
 obtain⟨⟨x,y,hu,h1,h2⟩,h3,h4⟩:=h;have e30:(1073741824:Nat)=2^30:=(by decide);rw[e30]at hnb hdb
 constructor
 ·
  have:1*2^y<2^p*2^30*2^x:=by
   refine Nat.lt_of_le_of_lt (Nat.mul_le_mul_right _ (by omega:1≤n)) (Nat.lt_of_lt_of_le h2 ?_);exact Nat.mul_le_mul_right _ (Nat.mul_le_mul (by omega) hdb)
  rw[←Nat.pow_add,←Nat.pow_add]at this;have:=pow_le_of (d:=1) (by omega) (Nat.lt_of_lt_of_eq this (Nat.one_mul _).symm)
  omega
 have:2^(p-1)*1*2^x≤2^30*2^y:=
  Nat.le_trans (Nat.mul_le_mul_right _ (Nat.mul_le_mul h3 (by omega))) (Nat.le_trans h1 (Nat.mul_le_mul_right _ hnb))
 rw[Nat.mul_one,←Nat.pow_add,←Nat.pow_add]at this;have:=(Nat.pow_le_pow_iff_right (a:=2) (by omega)).1 this
 omega
theorem no_between{t p k x y:Nat}(ht:2^(p-1)≤t)(hp:0<p)(hk:k<2^p)(h1:t*2^x<k*2^y)(h2:k*2^y<(t+1)*2^x):False:=by
 rcases Nat.lt_or_ge y x with h | h
 ·
  obtain⟨j,rfl⟩:∃j,x=y+1+j:=⟨x-y-1,by omega⟩
  have a1:k*2^y<2^(p+y):=by rw[Nat.pow_add];exact Nat.mul_lt_mul_of_pos_right hk (Nat.two_pow_pos _)
  have a2:2^(p+y)≤t*2^(y+1+j):=by
   refine Nat.le_trans ?_ (Nat.mul_le_mul_right _ ht);rw[←Nat.pow_add];exact Nat.pow_le_pow_right (by omega) (by omega)
  omega
 obtain⟨j,rfl⟩:∃j,y=j+x:=⟨y-x,by omega⟩
 rw[Nat.pow_add,←Nat.mul_assoc]at h1 h2;have a1:=Nat.lt_of_mul_lt_mul_right h1;have a2:=Nat.lt_of_mul_lt_mul_right h2
 omega
section
variable {n d p t:Nat} {u:Int} {ex:Bool}
theorem Enc.lowest(h:Enc n d p t u)(hp:0<p)(hd:0<d)(hu: -16384≤u):t*2^(u+ZE).toNat*d≤n*Z16:=by
 have:=(Fl.all h.1 (x:=(u+ZE).toNat) (y:=ZE) (by have hZ:=ZE_eq;generalize ZE=z at *;omega)).1;unfold Z16;rw[Nat.mul_assoc,Nat.mul_comm _ d,←Nat.mul_assoc];exact this
theorem Enc.above(h:Enc n d p t u)(hp:0<p)(hd:0<d)(hu: -16384≤u):n*Z16<(t+1)*2^(u+ZE).toNat*d:=by
 have:=(Fl.all h.1 (x:=(u+ZE).toNat) (y:=ZE) (by have hZ:=ZE_eq;generalize ZE=z at *;omega)).2;unfold Z16;rw[Nat.mul_assoc,Nat.mul_comm _ d,←Nat.mul_assoc];exact this
theorem Enc.exact_iff(h:Enc n d p t u)(hex:ex=true↔Ex n d t u)(hu: -16384≤u):ex=true↔t*2^(u+ZE).toNat*d=n*Z16:=by
 have hx:(((u+ZE).toNat:Nat):Int)-(ZE:Nat)=u:=(by have hZ:=ZE_eq;generalize ZE=z at *;omega);rw[hex];unfold Z16;rw[Nat.mul_assoc,Nat.mul_comm _ d,←Nat.mul_assoc];exact⟨fun h=>Ex.all h hx,fun h=>⟨_,_,hx,h⟩⟩
theorem Enc.great(h:Enc n d p t u)(hp:0<p)(hd:0<d)(hu: -16384≤u){k y:Nat}(hk:k<2^p)(hle:k*2^y*d≤n*Z16):k*2^y≤t*2^(u+ZE).toNat:=by
 rcases Nat.lt_or_ge (t*2^(u+ZE).toNat) (k*2^y)with h1 | h1
 ·
  exact absurd (no_between h.2.1 hp hk h1 (Nat.lt_of_mul_lt_mul_right (Nat.lt_of_le_of_lt hle (h.above hp hd hu)))) id
 exact h1
theorem Enc.least(h:Enc n d p t u)(hex:ex=true↔Ex n d t u)(hp:0<p)(hd:0<d)(hu: -16384≤u){k y:Nat}(hk:k<2^p)(hle:n*Z16≤k*2^y*d):endQ t ex true*2^(u+ZE).toNat≤k*2^y:=by
 have hi:=h.exact_iff hex hu
 cases ex with
 | true=>
  have:=hi.1 rfl;rw[←this]at hle
  exact Nat.le_of_mul_le_mul_right hle hd
 | false=>
  have h0:t*2^(u+ZE).toNat*d≠n*Z16:=fun e=>by have:=hi.2 e;cases this
  have h1:=h.lowest hp hd hu;have h2:t*2^(u+ZE).toNat <k*2^y:=Nat.lt_of_mul_lt_mul_right (a:=d) (by omega)
  show(t+1)*_≤_
  rcases Nat.lt_or_ge (k*2^y) ((t+1)*2^(u+ZE).toNat)with h3 | h3
  ·
   exact absurd (no_between h.2.1 hp hk h2 h3) id
  exact h3
theorem Enc.endPos(h:Enc n d p t u)(up:Bool):endQ t ex up≠0:=by
 have:=Nat.two_pow_pos (p-1);have:=h.2.1;unfold endQ
 split<;>omega
end
def encE(n d:Int)(p:Nat)(up:Bool):D:=
  if n=0 then⟨false,0,0⟩else canon (decide (n<0)) (endQ (encT n.natAbs d.natAbs p) (encX n.natAbs d.natAbs p) (up !=decide (n<0))) (encU n.natAbs d.natAbs p)
section
variable {n d:Int} {p:Nat}
end
end Go.Fl.Dy
namespace Go.Fl.Dy
theorem ctz_v2(f x:Nat)(h0:x≠0)(hx:x<2^f):Lib.ctz f x=v2 x:=by
 unfold Lib.ctz;rw[if_neg h0];obtain⟨m,hm,_⟩:=Lib.ctzFrom_spec f x (by omega) hx;exact(v2_unique (by omega) hm).1.symm
end Go.Fl.Dy
namespace Go.Proofs.YtgcjmhjjpbcfmaaGreatDoor
open Go.RowKit Go.Fl Go.Fl.Nm Go.Fl.Dy
def ints(l:List Nat):List Int:=l.map fun x:Nat=>(x:Int)
structure RB (w:World):Prop where
  p10:Lib.TabIs Tryz.prog w "internal/strconv.uint64pow10" .u64 Lib.pow10Tab
  t32:Lib.TabIs Tryz.prog w "math/bits.deBruijn32tab" .u8 (ints Lib.deBruijn32tab)
  t64:Lib.TabIs Tryz.prog w "math/bits.deBruijn64tab" .u8 (ints Lib.deBruijn64tab)
theorem tab_below{name:String}{g:Nat}{k:IntKind}{zs:List Int}{w w':World}(hg:Tryz.prog.globalNamed name=some g)(h:Lib.TabIs Tryz.prog w name k zs)(hb:Below w.heap.size w w'):Lib.TabIs Tryz.prog w' name k zs:=by
 unfold Lib.TabIs World.var? at h ⊢
 rw[hg]at h ⊢;simp only[Option.bind_some]at h ⊢
 have hlt:g<w.heap.size:=by
  rcases Nat.lt_or_ge g w.heap.size with h' | h'
  ·
   exact h'
  rw[Array.getElem?_eq_none h']at h;cases h
 rw[hb.block g hlt];exact h
theorem g10:Tryz.prog.globalNamed "internal/strconv.uint64pow10" =some 8:=by kernel_rfl
theorem g32:Tryz.prog.globalNamed "math/bits.deBruijn32tab" =some 1:=by kernel_rfl
theorem g64:Tryz.prog.globalNamed "math/bits.deBruijn64tab" =some 9:=by kernel_rfl
theorem RB.below{w w':World}(h:RB w)(hb:Below w.heap.size w w'):RB w':=⟨tab_below g10 h.p10 hb,tab_below g32 h.t32 hb,tab_below g64 h.t64 hb⟩
theorem RB.alloc{w:World}(h:RB w)(o:Obj):RB (w.alloc o):=h.below ((Below.refl _ _).alloc (Nat.le_refl _) _)
theorem RB.drewN{w:World}(h:RB w)(n:Nat):RB (w.drewN n):=h.below (below_drewN (Below.refl _ _) n)
theorem RB.c32{w:World}(h:RB w){j:Nat}(hj:j<32):w.cell? ⟨1,j,none⟩=some (.int .u8 (Lib.deBruijn32tab.getD j 0:Nat)):=by
 have hl:Lib.deBruijn32tab.length=32:=rfl;have:=Lib.TabIs.cell h.t32 g32 j (by simp[ints,hl,hj]);rw[this]
 simp[ints,List.getD,hl,hj]
theorem tz32_core(x k idx:Nat)(w:World)(hx0:((x:Int)==0)=false)
 (key:bits BinOp.and IntKind.u32 (x:Int) (-(x:Int)%4294967296)*125613361%4294967296/134217728=(idx:Int))
 (hi:idx<32) (hk:k<32) (hcell:w.cell? ⟨1,idx,none⟩=some (.int .u8 k)):
 Calls Tryz.prog 189 #[.int .u32 x] w fun e w'=>e= .returned (.i k)∧w=w':=by
 go_in
 go_wp2_with (simp only[key])
 go_ret;exact⟨rfl,rfl⟩
theorem tz32_any(x:Nat)(w:World)(h0:x≠0)(hx:x<BB)(hT:RB w):
 Calls Tryz.prog 189 #[.int .u32 x] w fun e w'=>e= .returned (.i (v2 x))∧w=w':=by
 rw[BB_eq]at hx;obtain⟨hlow,hk⟩:=Lib.lowest_bit 32 x h0 hx;obtain⟨hi,htab⟩:=Lib.deBruijn32_at _ hk;have hcell:=hT.c32 hi;rw[htab]at hcell;rw[←ctz_v2 32 x h0 hx];exact tz32_core x _ _ w (by simp;omega) (Go.Proofs.tz32_key x _ hx h0 hlow) hi hk hcell
theorem trimmed_any(A:Option Addr)(n c:Nat)(l:List Nat)(w:World)(h:Sl w A n c l):
 Calls Tryz.prog 145 #[.l A n c] w fun e w'=>e= .returned (.l A (tl l) c)∧w=w':=by
 have r:=h.max;have z:=h.cap;have s:=h.capMax;unfold maxLen at r s;have H:=hI h;have a:l.length=n:=h.len;have o:=hI a
 cases A with
 | none=>
  have:=h.nil rfl;subst this
  obtain rfl:n=0:=by omega
  have:l=[]:=List.eq_nil_of_length_eq_zero a
  subst this;clear h a
  go_in
  go_wp2
  go_loop [3] (fun i=>i= .i 0) (fun _=>0)
  case atStart=>rfl
  subst hrel
  go_wp2
  go_ret
  exact⟨rfl,rfl⟩
 | some ad=>
  clear h a
  go_in
  go_wp2
  go_loop [3] (fun i=>∃k:Nat,i= .i k∧k≤n∧Hid (∀x∈l.drop k,x=0)) (fun i=>(intOf i).toNat)
  case atStart=>exact⟨n,rfl,by omega,hI (by rw[List.drop_eq_nil_of_le (by rw[o.o];omega)];simp)⟩
  obtain⟨k,rfl,t,d⟩:=hrel
  by_cases hk0:k=0
  ·
   subst hk0;have g:=hI (tl_unique (by omega) d.o (fun x h=>absurd h (by omega)))
   go_wp2
   go_ret;exact⟨by rw[g.o];rfl,rfl⟩
  obtain⟨j,rfl⟩:∃j,k=j+1:=⟨k-1,by omega⟩
  obtain⟨b,B,x,m,C,p,u,D⟩:=H.o.at_ (i:=j) (by omega);injection m with m;subst m;have q:=hI p;clear p hk0;unfold BB at u
  by_cases hx0:x=0
  ·
   subst hx0
   have v:=hI (show ∀x∈l.drop j,x=0 by
    rw[drop_at q.o];intro y hy
    rcases List.mem_cons.1 hy with rfl | hy
    ·
     rfl
    exact d.o y hy)
   go_wp2
   go_round
   case rel=>exact⟨j,by go_num,by omega,v⟩
   case measure=>simp[intOf]
  have g:=hI (tl_unique (by rw[o.o];exact t) d.o (fun y _ hy=>by
   rw[show j+1-1=j by omega,q.o]at hy;injection hy with hy
   omega))
  have E:((x:Int)==0)=false:=by rw[beq_eq_false_iff_ne];omega
  go_wp2
  go_ret;exact⟨by rw[g.o];rfl,rfl⟩
theorem low_any(A:Option Addr)(n c:Nat)(l:List Nat)(w:World)(h:Sl w A n c l)(hT:RB w)(hn:n≤100000)(h0:val l≠0):
 Calls Tryz.prog 146 #[.l A n c] w fun e w'=>e= .returned (.i (v2 (val l)))∧w=w':=by
 have H:=hI h;have m:=hI hT;have o:=hI h.len;have p:=hI h0;clear h hT h0
 go_in
 go_wp2
 go_loop [3,8,5] (fun s i _=>∃k:Nat,i= .i k∧s= .i (32*k:Nat)∧k≤n∧Hid (∀x∈l.take k,x=0)) (fun _ i _=>n-(intOf i).toNat)
 case atStart=>exact⟨0,rfl,rfl,by omega,hI (by simp)⟩
 obtain⟨k,rfl,rfl,t,a⟩:=hrel
 by_cases hlt:k<n
 ·
  obtain⟨b,u,x,q,v,hx,d,z⟩:=H.o.at_ hlt;subst q;have g:=hI hx;have j:=hI d;clear hx;unfold BB at d
  by_cases hx0:x=0
  ·
   subst hx0
   have r:=hI (show ∀y∈l.take (k+1),y=0 by
    rw[take_succ_at g.o];intro y hy
    rcases List.mem_append.1 hy with hy | hy
    ·
     exact a.o y hy
    simpa using hy)
   go_wp2
   go_round
   case rel=>exact⟨k+1,by go_num,by go_num,by omega,r⟩
   case measure=>simp[intOf];omega
  have B:((x:Int)!=0)=true:=by simp;omega
  have C:v2 x<32:=by
   have D:=v2_lt hx0;have:blen x≤32:=blen_le (by omega)
   omega
  go_wp2_with (refine(tz32_any x w hx0 j.o m.o).mono ?_;rintro e w' ⟨rfl,rfl⟩)
  go_ret;exact⟨ret_int (by rw[(v2_limbs a.o g.o hx0 j.o)];omega),rfl⟩
 exfalso
 apply p.o
 have:l.take k=l:=List.take_of_length_le (by rw[o.o];omega);exact val_zero_of (fun x hx=>a.o x (by rw[this];exact hx))
theorem size_any(A:Option Addr)(n c:Nat)(l:List Nat)(w:World)(h:Sl w A n c l)(hn:n≤100000):
 Calls Tryz.prog 181 #[.l A n c] w fun e w'=>e= .returned (.i (blen (val l)))∧w=w':=by
 go_in
 go_wp2_with fail;refine(bits_any A n c l w h hn).mono ?_;rintro e w' ⟨rfl,rfl⟩
 go_wp2
 go_ret;exact⟨rfl,rfl⟩
end Go.Proofs.YtgcjmhjjpbcfmaaGreatDoor
namespace Go.Fl
open Go.RowKit
theorem Blk.belowW{w w':World}{g:Nat}{t:TypeId}{cs:Array Value}(h:Blk w g t cs)(hb:Below w.heap.size w w'):Blk w' g t cs:=h.below hb h.lt
theorem Blk.b9{w w':World}{g:Nat}{t:TypeId}{cs:Array Value}(h:Blk w g t cs)(hb:Go.RowKit.Hid (Go.RowKit.Below w.heap.size w w')):Go.RowKit.Hid (Blk w' g t cs):=hI (Blk.belowW h hb.o)
theorem Blk.new1(w:World)(o:Obj)(t:TypeId)(cs:Array Value):Blk ((w.alloc o).alloc (.cells cs t)) (w.heap.size+1) t cs:=by
 have:=Blk.new (w.alloc o) t cs
 simpa using this
theorem Blk.new2(w:World)(o o':Obj)(t:TypeId)(cs:Array Value):Blk (((w.alloc o).alloc o').alloc (.cells cs t)) (w.heap.size+2) t cs:=by
 have:=Blk.new ((w.alloc o).alloc o') t cs
 simpa using this
theorem below_a1(w:World)(o:Obj):Below w.heap.size w (w.alloc o):=(Below.refl _ _).alloc (Nat.le_refl _) _
theorem below_a2(w:World)(o o':Obj):Below w.heap.size w ((w.alloc o).alloc o'):=(below_a1 w o).alloc (by simp) _
theorem below_a3(w:World)(o o' o'':Obj):Below w.heap.size w (((w.alloc o).alloc o').alloc o''):=(below_a2 w o o').alloc (by simp;omega) _
theorem below_a4(w:World)(o o' o'' o3:Obj):Below w.heap.size w ((((w.alloc o).alloc o').alloc o'').alloc o3):=(below_a3 w o o' o'').alloc (by simp;omega) _
theorem Blk.new3(w:World)(o o' o'':Obj)(t:TypeId)(cs:Array Value):Blk ((((w.alloc o).alloc o').alloc o'').alloc (.cells cs t)) (w.heap.size+3) t cs:=by
 have:=Blk.new (((w.alloc o).alloc o').alloc o'') t cs
 simpa using this
def NoU(cs:Array Value):Prop:=∀(i:Nat) (x:Int),cs[i]? ≠some (.int .u32 x)
theorem noU3{a:Bool}{A:Option Addr}{n c:Nat}{e:Int}:NoU #[.b a,.l A n c,.i e]:=by
 intro i x h
 match i with
 | 0=>simp at h
 | 1=>simp at h
 | 2=>simp at h
 | i+3=>simp at h
theorem store3_put{w:World}{g:Nat}{t:TypeId}{x y z:Value}(hB:Blk w g t #[x,y,z])(a b c:Value):((w.setCell ⟨g,0,none⟩ a).setCell ⟨g,1,none⟩ b).setCell ⟨g,2,none⟩ c=putB w g t #[a,b,c]:=by
 rw[hB.setCell_eq 0 a];have h1:=hB.put ((#[x,y,z]:Array Value).setIfInBounds 0 a);rw[h1.setCell_eq 1 b,putB_putB];have h2:=hB.put (((#[x,y,z]:Array Value).setIfInBounds 0 a).setIfInBounds 1 b);rw[h2.setCell_eq 2 c,putB_putB]
 rfl
theorem store3_below{B:Nat}{w0 w:World}{g:Nat}{t:TypeId}{x y z:Value}(h:Below B w0 w)(hB:Blk w g t #[x,y,z])(a b c:Value)(hg:B≤g):Below B w0 (((w.setCell ⟨g,0,none⟩ a).setCell ⟨g,1,none⟩ b).setCell ⟨g,2,none⟩ c):=by
 rw[store3_put hB];exact h.trans (putB_below w g t _ hg)
end Go.Fl
namespace Go.Fl.Nm
open Go.RowKit Go.Fl
theorem Sl.belowW{w w':World}{A:Option Addr}{n c:Nat}{l:List Nat}(h:Sl w A n c l)(hb:Below w.heap.size w w'):Sl w' A n c l:=h.below hb
theorem Sl.b9{w w':World}{A:Option Addr}{n c:Nat}{l:List Nat}(h:Sl w A n c l)(hb:Go.RowKit.Hid (Go.RowKit.Below w.heap.size w w')):Go.RowKit.Hid (Sl w' A n c l):=hI (Sl.belowW h hb.o)
theorem Sl.clip{w:World}{A:Option Addr}{n c:Nat}{l:List Nat}(h:Sl w A n c l):Sl w A n n l:=by
 have:=h.cut (Nat.le_refl n) (Nat.le_refl n) h.max (fun e=>by have:=h.nil e;have:=h.cap;omega)
 rwa [List.take_of_length_le (by rw[h.len];exact Nat.le_refl _)]at this
theorem Sl.lim{w:World}{A:Option Addr}{n c v k:Nat}(h:Sl w A n c (limbs v))(hv:blen v≤32*k):n≤k:=by rw[←h.len];exact Go.Fl.Dy.limbs_bits hv
theorem Sl.far{w w':World}{A:Option Addr}{n c g:Nat}{l:List Nat}{t:TypeId}{cs:Array Value}(h:Sl w A n c l)(hB:Blk w g t cs)(hN:NoU cs)(hg:w.grownBy w' (some g)):Sl w' A n c l:=by
 rcases Nat.eq_zero_or_pos n with h0 | h0
 ·
  exact⟨h.1,h.2.1,h.2.2.1,h.2.2.2.1,h.2.2.2.2.1,h.rd.1,fun hp=>absurd hp (by omega)⟩
 refine h.grown hg ?_;rintro b off hA rfl;obtain⟨b',off',x,hA',_,_,_,hx⟩:=h.at_ h0;rw[hA]at hA';injection hA' with hA';injection hA' with e1 e2;subst e1 e2;rw[hB.cell]at hx;exact hN _ _ hx
theorem store3_sl{w:World}{A:Option Addr}{n m g:Nat}{l:List Nat}{t:TypeId}{x y z:Value}(h:Sl w A n m l)(hB:Blk w g t #[x,y,z])(hN:NoU #[x,y,z])(a b c:Value):Sl (((w.setCell ⟨g,0,none⟩ a).setCell ⟨g,1,none⟩ b).setCell ⟨g,2,none⟩ c) A n m l:=by
 rw[store3_put hB];exact h.far hB hN (putB_grown w g t _)
end Go.Fl.Nm
namespace Go.Proofs.YtgcjmhjjpbcfmaaGreatDoor
open Go.RowKit Go.Fl Go.Fl.Nm Go.Fl.Dy
theorem RB.belowW{w w':World}(h:RB w)(hb:Below w.heap.size w w'):RB w':=h.below hb
theorem RB.b9{w w':World}(h:RB w)(hb:Go.RowKit.Hid (Go.RowKit.Below w.heap.size w w')):Go.RowKit.Hid (RB w'):=hI (RB.belowW h hb.o)
def SlR(v:Nat)(w:World)(e:Ending)(w':World):Prop:=
  ∃(A:Option Addr) (n:Nat),e= .returned (.tuple #[.l A n n,.i 0])∧Hid (Sl w' A n n (limbs v))∧Hid (Below w.heap.size w w')
theorem SlR.of{base v:Nat}{w:World}{e:Ending}{w':World}(h:Res base v w e w')(hv:blen v≤8192):SlR v w e w':=by
 obtain⟨A,n,l,er,rfl,HN,HR,HB⟩:=h;have hl:(limbs v).length≤256:=limbs_bits (by omega)
 rcases HR.o with⟨rfl,rfl,_⟩ | ⟨_,_,h⟩
 ·
  exact⟨A,n,rfl,hI HN.o.sl,HB⟩
 omega
section
variable (A B:Option Addr) (n c m d:Nat) (a b:List Nat) (w:World) (ha:Sl w A n c a) (hb:Sl w B m d b) (hn:n≤256) (hm:m≤256)
include ha hb hn hm in
theorem nAdd_sl(hv:blen (val a+val b)≤8192):Calls Tryz.prog 231 #[.l A n c,.l B m d] w (SlR (val a+val b) w):=(nAdd_ok A B n c m d a b w ha hb hn hm).mono fun _ _ h=>SlR.of h hv
include ha hb hn hm in
theorem nSub_sl(hle:val b≤val a)(hv:blen (val a-val b)≤8192):Calls Tryz.prog 232 #[.l A n c,.l B m d] w (SlR (val a-val b) w):=(nSub_ok A B n c m d a b w ha hb hn hm hle).mono fun _ _ h=>SlR.of h hv
include ha hn in
theorem nShl_sl(k:Int)(hk:0≤k)(hk1:k≤65536)(hv:blen (2^k.toNat*val a)≤8192):Calls Tryz.prog 185 #[.l A n c,.i k] w (SlR (2^k.toNat*val a) w):=by
 rw[Nat.mul_comm]at hv ⊢
 exact(nShl_ok A n c k a w ha hn hk hk1).mono fun _ _ h=>SlR.of h hv
include ha hn in
theorem nShr_sl(k:Int)(hk:0≤k)(hk1:k≤65536)(hv:blen (val a/2^k.toNat)≤8192):Calls Tryz.prog 147 #[.l A n c,.i k] w (SlR (val a/2^k.toNat) w):=(nShr_ok A n c k a w ha hn hk hk1).mono fun _ _ h=>SlR.of h hv
end
def DyR(d:D)(w:World)(e:Ending)(w':World):Prop:=
  ∃(A:Option Addr) (n c:Nat),e= .returned (.agg #[.b d.neg,.l A n c,.i d.e])∧Hid (Sl w' A n c (limbs d.k))∧Hid (Below w.heap.size w w')
def DyE(r:D×Int)(w:World)(e:Ending)(w':World):Prop:=
  ∃(A:Option Addr) (n c:Nat),e= .returned (.tuple #[.agg #[.b r.1.neg,.l A n c,.i r.1.e],.i r.2])∧Hid (Sl w' A n c (limbs r.1.k))∧Hid (Below w.heap.size w w')
def Ret(v:Value)(w:World)(e:Ending)(w':World):Prop:=e= .returned v∧Hid (Below w.heap.size w w')
theorem canonical_any(neg:Bool)(A:Option Addr)(n c:Nat)(l:List Nat)(ex:Int)(w:World)(h:Sl w A n c l)(hT:RB w)(hn:n≤256)(h1: -1000000000≤ex)(h2:ex≤1000000000):
 Calls Tryz.prog 113 #[.b neg,.l A n c,.i ex] w (DyR (canon neg (val l) ex) w):=by
 have H:=hI h;have J:=hI hT;have s:=hI h.len;have L:=hI h.ok;have M:=h.capMax;have ab:=h.cap;unfold maxLen at M;have N:=hI h.nil;clear h hT
 by_cases h0:tl l=0
 ·
  have p:=hI (show canon neg (val l) ex=⟨false,0,0⟩by rw[val_zero_iff.2 h0];rfl)
  go_in
  go_wp2_with fail;refine(trimmed_any A n c l _ (H.o.alloc _)).mono ?_;rintro e a ⟨rfl,rfl⟩;rw[h0];go_wp2;refine bodyPost_ret (v:= .agg #[.b false,.sn,.i 0]) (by simp[results,Tryz.results113,go_sem]) rfl ?_;rw[p.o];exact⟨none,0,0,rfl,hI (by rw[limbs_zero];exact Sl.none_ _),hI (below_a1 _ _)⟩
 obtain⟨k,g⟩:∃k,tl l=k:=⟨_,rfl⟩
 have O:k≤n:=(by rw[←g,←s.o];exact(tl_le l));have ac:((k:Int)==0)=false:=(by rw[beq_eq_false_iff_ne];omega)
 have b:val l≠0:=fun h=>h0 (val_zero_iff.1 h)
 have q:=hI (show val (l.take k)=val l by rw[←g,val_trim]);have P:=hI (show val (l.take k)≠0 by rw[q.o];exact b);have Q:=hI (H.o.cut (m:=k) (c':=c) O (by omega) (by unfold maxLen;omega) N.o)
 have ad:blen (val l)≤32*n:=by
  have:=val_lt L.o;rw[s.o,BB_pow,←Nat.pow_mul]at this;exact blen_le this
 have u:=v2_lt b;have z:=blen_od b;have p:=hI (canon_pos (neg:=neg) (e:=ex) b);have R:=hI g;clear h0 g b;obtain⟨v,d⟩:=eX (v2 (val l));have B:=hI (show val (l.take k)/2^(v:Int).toNat=od (val l)by rw[q.o,Int.toNat_natCast,d];rfl);have S:=hI (show v2 (val (l.take k))=v by rw[q.o,d]);have ae:v≤8192:=(by omega);have C:=hI (show blen (od (val l))≤8192 by omega);rw[←d]at u z;have T:=hI d;clear d z u
 go_in
 go_wp2_with fail;obtain⟨a,r,i,_⟩:=aX w 75 #[.b false,.sn,.i 0];have D:=Q.o.b9 i;have U:=hI (show Blk a (w.heap.size) 75 #[.b false,.sn,.i 0]by rw[r];exact Blk.new _ _ _);rw[←r];clear r;refine(trimmed_any A n c l a (H.o.belowW i.o)).mono ?_;rintro e w' ⟨rfl,rfl⟩;rw[R.o];go_wp2_with fail;refine(low_any A k c (l.take k) a D.o (J.o.belowW i.o) (by omega) P.o).mono ?_;rintro e w' ⟨rfl,rfl⟩;rw[S.o];go_wp2_with fail;refine(nShr_sl A k c (l.take k) a D.o (by omega) v (by omega) (by omega) (by rw[B.o];exact C.o)).mono ?_;rw[B.o];rintro e w2 ⟨X,x,rfl,E,F⟩;have G:=i.o.t F;have hx:x≤256:=(by rw[←E.o.len];exact limbs_bits (by have:=C.o;omega));go_wp2_with fail;refine(clone_any X x x _ w2 (E.o) (by omega)).mono ?_;rintro e w3 ⟨Y,y,rfl,j,I⟩;have o:=hI ((U.o.belowW F.o).belowW I.o);have V:=hI j.o.sl.nil;have W:=j.o.sl.cap;have Z:=j.o.sl.capMax;go_wp2_with fail;refine(clip_any Y x y w3 W Z V.o).mono ?_;rintro e w' ⟨rfl,rfl⟩;have pr:=o.o.cell;have fr:=o.o.frozen;go_wp2;refine bodyPost_ret (v:= .agg #[.b neg,.l Y x x,.i (ex+v)]) (by simp[results,Tryz.results113,go_sem,pr]) rfl ?_;rw[p.o];refine⟨Y,x,x,by rw[T.o],hI ?_,hI (store3_below (G.o.trans (I.o.mono G.o.size)) o.o _ _ _ (Nat.le_refl _))⟩;exact store3_sl (j.o.sl).clip o.o noU3 _ _ _
theorem inRange_any(ng:Bool)(A:Option Addr)(n c:Nat)(ex:Int)(l:List Nat)(w:World)(h:Sl w A n c l)(hn:n≤100000):
 Calls Tryz.prog 166 #[.agg #[.b ng,.l A n c,.i ex]] w (Ret (.b (inR (val l) ex)) w):=by
 have H:=hI h;clear h
 obtain⟨b,o⟩:∃b:Int,b=(blen (val l):Nat):=⟨_,rfl⟩
 have q:=hI o.symm;have v:0≤b:=(by omega)
 have x:b≤3200000:=by
  have:=val_lt H.o.ok;rw[H.o.len,BB_pow,←Nat.pow_mul]at this;have:=blen_le this
  omega
 have p:b=0↔val l=0:=by rw[o,←blen_zero_iff];omega
 by_cases t0:b=0
 ·
  have g:=hI (show inR (val l) ex=true by simp[inR,p.1 t0]);clear p o;have u:(b==0)=true:=(by simp[t0]);clear t0
  go_in
  go_wp2_with fail;obtain⟨i,a,d,j⟩:=aX w 75 #[.b ng,.l A n c,.i ex];rw[←a];clear a;have r:=j.o.cell;go_wp2_with fail;refine(size_any A n c l i (H.o.belowW d.o) hn).mono ?_;rintro e w' ⟨rfl,rfl⟩;rw[q.o];go_wp2;go_ret;exact⟨ret_bool (by rw[g.o]),d⟩
 have m:val l≠0:=fun h=>t0 (p.2 h)
 have u:(b==0)=false:=by rw[beq_eq_false_iff_ne];exact t0
 by_cases t1:b≤4096
 case neg=>
  have g:=hI (show inR (val l) ex=false by rw[Bool.eq_false_iff];intro k;have k:=(inR_iff m).1 k;omega);clear p o;have s:decide (b≤4096)=false:=decide_eq_false t1;clear t1 t0 m
  go_in
  go_wp2_with fail;obtain⟨i,a,d,j⟩:=aX w 75 #[.b ng,.l A n c,.i ex];rw[←a];clear a;have r:=j.o.cell;go_wp2_with fail;refine(size_any A n c l i (H.o.belowW d.o) hn).mono ?_;rintro e w' ⟨rfl,rfl⟩;rw[q.o];go_wp2;go_ret;exact⟨ret_bool (by rw[g.o]),d⟩
 have y:decide (b≤4096)=true:=decide_eq_true t1
 by_cases t2: -16384≤ex
 case neg=>
  have g:=hI (show inR (val l) ex=false by rw[Bool.eq_false_iff];intro k;have k:=(inR_iff m).1 k;omega);clear p o;have s:decide (-16384≤ex)=false:=decide_eq_false t2;clear t2 t0 m
  go_in
  go_wp2_with fail;obtain⟨i,a,d,j⟩:=aX w 75 #[.b ng,.l A n c,.i ex];rw[←a];clear a;have r:=j.o.cell;go_wp2_with fail;refine(size_any A n c l i (H.o.belowW d.o) hn).mono ?_;rintro e w' ⟨rfl,rfl⟩;rw[q.o];go_wp2;go_ret;exact⟨ret_bool (by rw[g.o]),d⟩
 have z:decide (-16384≤ex)=true:=decide_eq_true t2
 by_cases t3:ex≤16384
 case neg=>
  have g:=hI (show inR (val l) ex=false by rw[Bool.eq_false_iff];intro k;have k:=(inR_iff m).1 k;omega);clear p o;have s:decide (ex≤16384)=false:=decide_eq_false t3;clear t3 t0 m
  go_in
  go_wp2_with fail;obtain⟨i,a,d,j⟩:=aX w 75 #[.b ng,.l A n c,.i ex];rw[←a];clear a;have r:=j.o.cell;go_wp2_with fail;refine(size_any A n c l i (H.o.belowW d.o) hn).mono ?_;rintro e w' ⟨rfl,rfl⟩;rw[q.o];go_wp2;go_ret;exact⟨ret_bool (by rw[g.o]),d⟩
 have B:decide (ex≤16384)=true:=decide_eq_true t3
 by_cases t4:b+ex≤16384
 case neg=>
  have g:=hI (show inR (val l) ex=false by rw[Bool.eq_false_iff];intro k;have k:=(inR_iff m).1 k;omega);clear p o;have s:decide (b+ex≤16384)=false:=decide_eq_false t4;clear t4 t0 m
  go_in
  go_wp2_with fail;obtain⟨i,a,d,j⟩:=aX w 75 #[.b ng,.l A n c,.i ex];rw[←a];clear a;have r:=j.o.cell;go_wp2_with fail;refine(size_any A n c l i (H.o.belowW d.o) hn).mono ?_;rintro e w' ⟨rfl,rfl⟩;rw[q.o];go_wp2;go_ret;exact⟨ret_bool (by rw[g.o]),d⟩
 have C:decide (b+ex≤16384)=true:=decide_eq_true t4;have g:=hI (show inR (val l) ex=true by exact(inR_iff m).2 ⟨by omega,by omega,by omega,by omega⟩);clear p o;clear t0 m
 go_in
 go_wp2_with fail;obtain⟨i,a,d,j⟩:=aX w 75 #[.b ng,.l A n c,.i ex];rw[←a];clear a;have r:=j.o.cell;go_wp2_with fail;refine(size_any A n c l i (H.o.belowW d.o) hn).mono ?_;rintro e w' ⟨rfl,rfl⟩;rw[q.o];go_wp2;go_ret;exact⟨ret_bool (by rw[g.o]),d⟩
theorem checked_any(d:D)(A:Option Addr)(n c:Nat)(w:World)(h:Sl w A n c (limbs d.k))(hn:n≤256):
 Calls Tryz.prog 277 #[.agg #[.b d.neg,.l A n c,.i d.e]] w (DyE (chk d) w):=by
 have H:=hI h;clear h
 by_cases hr:inR d.k d.e=true
 ·
  have q:=hI (show inR (val (limbs d.k)) d.e=true by rw[val_limbs];simpa using hr);have r:=hI (show chk d=(d,0)by unfold chk;rw[if_pos hr]);clear hr
  go_in
  go_wp2_with fail;obtain⟨b,a⟩:=eX (((w.alloc (.cells #[.b d.neg,.l A n c,.i d.e] 75)).alloc (.cells #[.b false,.sn,.i 0] 75)));have j:=hI (show Below w.heap.size w b by rw[a];exact below_a2 _ _ _);have x:=H.o.b9 j;have l:=hI (show Blk b (w.heap.size) 75 #[.b d.neg,.l A n c,.i d.e]by rw[a];exact(Blk.new _ _ _).alloc _);have s:=hI (show Blk b (w.heap.size+1) 75 #[.b false,.sn,.i 0]by rw[a];exact Blk.new1 _ _ _ _);rw[←a];clear a;have m:=l.o.cell;have o:=l.o.frozen;go_wp2_with fail;refine(inRange_any d.neg A n c d.e (limbs d.k) b x.o (by omega)).mono ?_;rintro e w2 ⟨rfl,g⟩;have p:=l.o.b9 g;have i:=s.o.b9 g;rw[q.o];clear m o;have m:=p.o.cell;have o:=p.o.frozen;have u:=i.o.cell;have y:=i.o.frozen;go_wp2;refine bodyPost_ret (v:= .tuple #[.agg #[.b d.neg,.l A n c,.i d.e],.i 0]) (by simp[results,Tryz.results277,go_sem,u]) rfl ?_;rw[r.o];exact⟨A,n,c,rfl,hI (store3_sl (x.o.belowW g.o) i.o noU3 _ _ _),hI (store3_below (j.o.trans (g.o.mono j.o.size)) i.o _ _ _ (by omega))⟩
 have q:=hI (show inR (val (limbs d.k)) d.e=false by rw[val_limbs];simpa using hr);have r:=hI (show chk d=(⟨false,0,0⟩,9)by unfold chk;rw[if_neg hr]);clear hr
 go_in
 go_wp2_with fail;obtain⟨b,a⟩:=eX (((w.alloc (.cells #[.b d.neg,.l A n c,.i d.e] 75)).alloc (.cells #[.b false,.sn,.i 0] 75)));have j:=hI (show Below w.heap.size w b by rw[a];exact below_a2 _ _ _);have l:=hI (show Blk b (w.heap.size) 75 #[.b d.neg,.l A n c,.i d.e]by rw[a];exact(Blk.new _ _ _).alloc _);have s:=hI (show Blk b (w.heap.size+1) 75 #[.b false,.sn,.i 0]by rw[a];exact Blk.new1 _ _ _ _);rw[←a];clear a;have m:=l.o.cell;have o:=l.o.frozen;go_wp2_with fail;refine(inRange_any d.neg A n c d.e (limbs d.k) b (H.o.belowW j.o) (by omega)).mono ?_;rintro e w2 ⟨rfl,g⟩;have p:=l.o.b9 g;have i:=s.o.b9 g;rw[q.o];clear m o;have m:=p.o.cell;have o:=p.o.frozen;have u:=i.o.cell;have y:=i.o.frozen;go_wp2;refine bodyPost_ret (v:= .tuple #[.agg #[.b false,.sn,.i 0],.i 9]) (by simp[results,Tryz.results277,go_sem,u]) rfl ?_;rw[r.o];exact⟨none,0,0,rfl,hI (by rw[limbs_zero];exact Sl.none_ _),hI (store3_below (j.o.trans (g.o.mono j.o.size)) i.o _ _ _ (by omega))⟩
end Go.Proofs.YtgcjmhjjpbcfmaaGreatDoor
namespace Go.Fl.Dy
open Go.Fl.Nm
theorem limbs_len_of{l:List Nat}(h:ok l):(limbs (val l)).length≤l.length:=by
 rw[←trim_limbs h,List.length_take];omega
theorem canon_len{neg:Bool}{k:Nat}{e:Int}(h:(limbs k).length≤256):(limbs (canon neg k e).k).length≤256:=by
 have h1:=bits_limbs h
 by_cases h0:k=0
 ·
  subst h0;rw[canon_zero,limbs_zero];simp
 rw[canon_pos h0];have:=blen_od h0;exact limbs_bits (by simp only;omega)
theorem vld_len{d:D}(h:vld d):(limbs d.k).length≤256:=by
 rcases h with⟨h,_⟩ | ⟨_,h,_⟩
 ·
  rw[h,limbs_zero];simp
 exact limbs_bits (by omega)
theorem vld_ebd{d:D}(h:vld d): -16384≤d.e∧d.e≤16384:=by
 rcases h with⟨_,_,h⟩ | ⟨_,_,h1,h2,_⟩<;>omega
theorem vld_bits{d:D}(h:vld d):blen d.k≤4096:=by
 rcases h with⟨h,_,_⟩ | ⟨_,h1,_⟩
 ·
  rw[h,blen_zero];omega
 exact h1
end Go.Fl.Dy
namespace Go.Proofs.YtgcjmhjjpbcfmaaGreatDoor
open Go.RowKit Go.Fl Go.Fl.Nm Go.Fl.Dy
theorem exponent_ok(k:Int)(w:World)(h1: -32768≤k)(h2:k≤32768):
 Calls Tryz.prog 276 #[.i k] w fun e w'=>e= .returned (.b true)∧w=w':=by
 have d1:decide (-32768≤k)=true:=decide_eq_true h1;have d2:decide (k≤32768)=true:=decide_eq_true h2
 go_in
 go_wp2
 go_ret;exact⟨rfl,rfl⟩
theorem make_ok'(ng:Bool)(A:Option Addr)(n c:Nat)(ex:Int)(l:List Nat)(w:World)(h:Sl w A n c l)(hT:RB w)(hn:n≤256)(h1: -32768≤ex)(h2:ex≤32768):
 Calls Tryz.prog 233 #[.b ng,.l A n c,.i ex] w (DyE (chk (canon ng (val l) ex)) w):=by
 have H:=hI h;have p:=hI hT;have q:=hI (canon_len (neg:=ng) (e:=ex) (Nat.le_trans (limbs_len_of h.ok) (by rw[h.len];exact hn)));clear h hT;have C:decide ((256:Int)<n)=false:=dF;have D:decide (256<n)=false:=dF
 go_in
 go_wp2_with fail;obtain⟨d,g,b,r⟩:=aX w 75 #[.b false,.sn,.i 0];rw[←g];clear g;refine(exponent_ok ex d h1 h2).mono ?_;rintro e w' ⟨rfl,rfl⟩;go_wp2_with fail;refine(canonical_any ng A n c l ex d (H.o.belowW b.o) (p.o.belowW b.o) hn (by omega) (by omega)).mono ?_;rintro e w2 ⟨X,x,s,rfl,i,j⟩;have k:=b.o.t j;have u:x≤256:=(by rw[←i.o.len];exact q.o);go_wp2_with fail;refine(checked_any (canon ng (val l) ex) X x s w2 (i.o) u).mono ?_;rintro e w3 ⟨Y,y,m,rfl,z,o⟩;have a:=hI ((r.o.belowW j.o).belowW o.o);have B:=a.o.cell;have E:=a.o.frozen;go_wp2;refine bodyPost_ret (v:= .tuple #[.agg #[.b (chk (canon ng (val l) ex)).1.neg,.l Y y m,.i (chk (canon ng (val l) ex)).1.e],.i (chk (canon ng (val l) ex)).2]) (by simp[results,Tryz.results233,go_sem,B]) rfl ?_;exact⟨Y,y,m,rfl,hI (store3_sl (z.o) a.o noU3 _ _ _),hI (store3_below (k.o.trans (o.o.mono k.o.size)) a.o _ _ _ (Nat.le_refl _))⟩
theorem valid_any(ng:Bool)(A:Option Addr)(n c:Nat)(ex:Int)(l:List Nat)(w:World)(h:Sl w A n c l):
 Calls Tryz.prog 119 #[.agg #[.b ng,.l A n c,.i ex]] w (Ret (.b (vldL ng l ex)) w):=by
 have H:=hI h;have L:=h.max;unfold maxLen at L;have C:=hI h.len;have M:=hI h.ok;clear h
 by_cases hn0:n=0
 ·
  subst hn0;have m:=hI (show vldL ng l ex=(!ng&&decide (ex=0))by rw[(List.eq_nil_of_length_eq_zero C.o)];exact vldL_nil ng ex)
  cases ng with
  | true=>
   go_in
   go_wp2_with fail;obtain⟨j,g,a,k⟩:=aX w 75 #[.b true,.l A 0 c,.i ex];rw[←g];clear g;have r:=k.o.cell;go_wp2;go_ret
   exact⟨ret_bool (by rw[m.o];rfl),a⟩
  | false=>
   by_cases he:ex=0
   ·
    have N:(ex==0)=true:=(by simp[he]);have D:=hI (show vldL false l ex=true by rw[m.o];simp[he]);clear he
    go_in
    go_wp2_with fail;obtain⟨j,g,a,k⟩:=aX w 75 #[.b false,.l A 0 c,.i ex];rw[←g];clear g;have r:=k.o.cell;go_wp2;go_ret;exact⟨ret_bool (by rw[D.o]),a⟩
   have N:(ex==0)=false:=(by simp[he]);have D:=hI (show vldL false l ex=false by rw[m.o];simp[he]);clear he
   go_in
   go_wp2_with fail;obtain⟨j,g,a,k⟩:=aX w 75 #[.b false,.l A 0 c,.i ex];rw[←g];clear g;have r:=k.o.cell;go_wp2;go_ret;exact⟨ret_bool (by rw[D.o]),a⟩
 have V:((n:Int)==0)=false:=(by rw[beq_eq_false_iff_ne];omega);obtain⟨b,d,x,G,o,I,O,s⟩:=H.o.at_ (i:=0) (by omega);obtain⟨W,X,y,z,P,J,Q,B⟩:=H.o.at_ (i:=n-1) (by omega);rw[G]at z;injection z with z;injection z with e1 e2;subst e1 e2 G;have u:=hI (vldL_pos (neg:=ng) (e:=ex) M.o I (by rw[C.o];exact J));rw[C.o]at u;clear I J P;unfold BB at O Q;rw[Nat.add_zero]at s;have Y:(0:Int)≤(n:Int)-1:=(by omega);have Z:(n:Int)-1<n:=(by omega);have b2:((n:Int)-1).toNat=n-1:=(by omega)
 by_cases t1:n≤256
 case neg=>
  have R:decide ((n:Int)≤256)=false:=dF;have v:decide (n≤256)=false:=decide_eq_false t1;have m:=hI (show vldL ng l ex=false by rw[u.o,v];rfl)
  go_in
  go_wp2_with fail;obtain⟨j,g,a,k⟩:=aX w 75 #[.b ng,.l (some ⟨b,d,none⟩) n c,.i ex];rw[←g];clear g;have r:=k.o.cell;have E:j.cell? ⟨b,d,none⟩=some (.int .u32 x):=a.o.cell (p:=⟨b,d,none⟩) o▸s;have F:j.cell? ⟨b,d+(n-1),none⟩=some (.int .u32 y):=a.o.cell (p:=⟨b,d+(n-1),none⟩) o▸B;go_wp2;go_ret;exact⟨ret_bool (by rw[m.o]),a⟩
 have R:decide ((n:Int)≤256)=true:=dT;have v:decide (n≤256)=true:=decide_eq_true t1
 by_cases t2:x%2=1
 case neg=>
  have S:((x:Int)%2==1)=false:=(by rw[beq_eq_false_iff_ne];omega);have q:decide (x%2=1)=false:=decide_eq_false t2;have m:=hI (show vldL ng l ex=false by rw[u.o,v,q];rfl);clear q
  go_in
  go_wp2_with fail;obtain⟨j,g,a,k⟩:=aX w 75 #[.b ng,.l (some ⟨b,d,none⟩) n c,.i ex];rw[←g];clear g;have r:=k.o.cell;have E:j.cell? ⟨b,d,none⟩=some (.int .u32 x):=a.o.cell (p:=⟨b,d,none⟩) o▸s;have F:j.cell? ⟨b,d+(n-1),none⟩=some (.int .u32 y):=a.o.cell (p:=⟨b,d+(n-1),none⟩) o▸B;go_wp2;go_ret;exact⟨ret_bool (by rw[m.o]),a⟩
 have S:((x:Int)%2==1)=true:=(by simp;omega);have q:decide (x%2=1)=true:=decide_eq_true t2
 by_cases t3:y=0
 case pos=>
  have m:=hI (show vldL ng l ex=false by rw[u.o,v,q,t3];rfl);have T:((y:Int)!=0)=false:=(by simp[t3]);clear q t3
  go_in
  go_wp2_with fail;obtain⟨j,g,a,k⟩:=aX w 75 #[.b ng,.l (some ⟨b,d,none⟩) n c,.i ex];rw[←g];clear g;have r:=k.o.cell;have E:j.cell? ⟨b,d,none⟩=some (.int .u32 x):=a.o.cell (p:=⟨b,d,none⟩) o▸s;have F:j.cell? ⟨b,d+(n-1),none⟩=some (.int .u32 y):=a.o.cell (p:=⟨b,d+(n-1),none⟩) o▸B;go_wp2;go_ret;exact⟨ret_bool (by rw[m.o]),a⟩
 have T:((y:Int)!=0)=true:=(by simp;exact t3);have m:=hI (show vldL ng l ex=inR (val l) ex by rw[u.o,v,q];simp[t3]);clear q
 go_in
 go_wp2_with fail;obtain⟨j,g,a,k⟩:=aX w 75 #[.b ng,.l (some ⟨b,d,none⟩) n c,.i ex];rw[←g];clear g;have r:=k.o.cell;have E:j.cell? ⟨b,d,none⟩=some (.int .u32 x):=a.o.cell (p:=⟨b,d,none⟩) o▸s;have F:j.cell? ⟨b,d+(n-1),none⟩=some (.int .u32 y):=a.o.cell (p:=⟨b,d+(n-1),none⟩) o▸B;go_wp2_with fail;refine(inRange_any ng (some ⟨b,d,none⟩) n c ex l j (H.o.belowW a.o) (by omega)).mono ?_;rintro e w2 ⟨rfl,U⟩;go_wp2;go_ret;exact⟨ret_bool (by rw[m.o]),(a.o.t U)⟩
theorem valid_yes(d:D)(A:Option Addr)(n c:Nat)(w:World)(h:Sl w A n c (limbs d.k))(hv:vld d):Calls Tryz.prog 119 #[.agg #[.b d.neg,.l A n c,.i d.e]] w (Ret (.b true) w):=by
 have:=valid_any d.neg A n c d.e (limbs d.k) w h
 rwa [vldL_of hv]at this
end Go.Proofs.YtgcjmhjjpbcfmaaGreatDoor
namespace Go.Fl.Nm
open Go.RowKit Go.Fl
theorem Sl.two{w:World}{g:Nat}{t:TypeId}{x y:Nat}{a b:Int}(hB:Blk w g t #[.int .u32 a,.int .u32 b])(ha:a=x)(hb:b=y)(hx:x<BB)(hy:y<BB):Sl w (some ⟨g,0,none⟩) 2 2 [x,y]:=by
 subst ha hb;exact(Nw.of_blk (base:=0) (l:=[x,y]) hB (ok_cons.2 ⟨hx,ok_cons.2 ⟨hy,ok_nil⟩⟩) (Nat.zero_le _) rfl (by unfold maxLen;simp)).sl
end Go.Fl.Nm
namespace Go.Fl
open Go.RowKit
theorem store3_far{w:World}{g g' i:Nat}{t:TypeId}{x y z v:Value}(hB:Blk w g' t #[x,y,z])(hc:w.cell? ⟨g,i,none⟩=some v)(hne:g≠g')(a b c:Value):(((w.setCell ⟨g',0,none⟩ a).setCell ⟨g',1,none⟩ b).setCell ⟨g',2,none⟩ c).cell? ⟨g,i,none⟩=some v:=by
 rw[store3_put hB];exact(putB_grown w g' t _).cell hc (by simpa using hne)
end Go.Fl
namespace Go.Proofs.YtgcjmhjjpbcfmaaGreatDoor
open Go.RowKit Go.Fl Go.Fl.Nm Go.Fl.Dy
def SlP(v:Nat)(w:World)(e:Ending)(w':World):Prop:=
  ∃(A:Option Addr) (n:Nat),e= .returned (.l A n n)∧Hid (Sl w' A n n (limbs v))∧Hid (Below w.heap.size w w')
theorem int_any(k:Nat)(neg:Bool)(N:Int)(w:World)(hT:RB w)(hk:k≤1073741824)(hN:N=if neg then -(k:Int)else k)(hz:neg=true→k≠0):
 Calls Tryz.prog 69 #[.i N] w (DyR (canon neg k 0) w):=by
 have q:=hI hT;clear hT
 cases neg with
 | false=>
  simp at hN
  subst hN;clear hz;have r:decide ((k:Int)<0)=false:=dF;have s:IntKind.u64.wrap (k:Int)=k:=(by rw[IntKind.wrap_u64];omega);have j:=hI (show val [k,k/4294967296]=k by rw[val_cons,val_cons,val_nil,BB_eq];omega)
  go_in
  go_wp2_with fail;obtain⟨b,a⟩:=eX (((w.alloc (.cells #[.b false,.sn,.i 0] 75)).alloc (.cells #[.int .u32 (k:Int),.int .u32 ((k:Int)/4294967296)] 157)));have d:=hI (show Below w.heap.size w b by rw[a];exact below_a2 _ _ _);have l:=hI (show Blk b (w.heap.size) 75 #[.b false,.sn,.i 0]by rw[a];exact(Blk.new _ _ _).alloc _);have m:=hI (show Blk b (w.heap.size+1) 157 #[.int .u32 (k:Int),.int .u32 ((k:Int)/4294967296)]by rw[a];exact Blk.new1 _ _ _ _);rw[←a];clear a;have n:=hI (Sl.two m.o (x:=k) (y:=k/4294967296) rfl rfl (by unfold BB;omega) (by unfold BB;omega));refine(canonical_any false (some ⟨w.heap.size+1,0,none⟩) 2 2 [k,k/4294967296] 0 b n.o (q.o.belowW d.o) (by omega) (by omega) (by omega)).mono ?_;rw[j.o];rintro e w2 ⟨X,x,g,rfl,o,i⟩;have c:=l.o.b9 i;have p:=c.o.cell;have u:=c.o.frozen;go_wp2;refine bodyPost_ret (v:= .agg #[.b (canon false k 0).neg,.l X x g,.i (canon false k 0).e]) (by simp[results,Tryz.results69,go_sem,p]) rfl ?_
  exact⟨X,x,g,rfl,hI (store3_sl (o.o) c.o noU3 _ _ _),hI (store3_below (d.o.trans (i.o.mono d.o.size)) c.o _ _ _ (Nat.le_refl _))⟩
 | true=>
  simp at hN
  subst hN;have z:=hz rfl;clear hz;have r:decide (-(k:Int)<0)=true:=dT;have s:IntKind.u64.wrap (-(k:Int))=18446744073709551616-k:=(by rw[IntKind.wrap_u64];omega);have B:IntKind.u64.wrap (-(18446744073709551616-(k:Int)))=k:=(by rw[IntKind.wrap_u64];omega);have j:=hI (show val [k,k/4294967296]=k by rw[val_cons,val_cons,val_nil,BB_eq];omega)
  go_in
  go_wp2_with fail;obtain⟨b,a⟩:=eX (((w.alloc (.cells #[.b false,.sn,.i 0] 75)).alloc (.cells #[.int .u32 (k:Int),.int .u32 ((k:Int)/4294967296)] 157)));have d:=hI (show Below w.heap.size w b by rw[a];exact below_a2 _ _ _);have l:=hI (show Blk b (w.heap.size) 75 #[.b false,.sn,.i 0]by rw[a];exact(Blk.new _ _ _).alloc _);have m:=hI (show Blk b (w.heap.size+1) 157 #[.int .u32 (k:Int),.int .u32 ((k:Int)/4294967296)]by rw[a];exact Blk.new1 _ _ _ _);rw[←a];clear a;have n:=hI (Sl.two m.o (x:=k) (y:=k/4294967296) rfl rfl (by unfold BB;omega) (by unfold BB;omega));refine(canonical_any true (some ⟨w.heap.size+1,0,none⟩) 2 2 [k,k/4294967296] 0 b n.o (q.o.belowW d.o) (by omega) (by omega) (by omega)).mono ?_;rw[j.o];rintro e w2 ⟨X,x,g,rfl,o,i⟩;have c:=l.o.b9 i;have p:=c.o.cell;have u:=c.o.frozen;go_wp2;refine bodyPost_ret (v:= .agg #[.b (canon true k 0).neg,.l X x g,.i (canon true k 0).e]) (by simp[results,Tryz.results69,go_sem,p]) rfl ?_;exact⟨X,x,g,rfl,hI (store3_sl (o.o) c.o noU3 _ _ _),hI (store3_below (d.o.trans (i.o.mono d.o.size)) c.o _ _ _ (Nat.le_refl _))⟩
theorem shifted_any(A:Option Addr)(n c:Nat)(l:List Nat)(k:Int)(w:World)(h:Sl w A n c l)(hn:n≤256)(hk:0≤k)(hk1:k≤65536)(hv:blen (2^k.toNat*val l)≤8192):
 Calls Tryz.prog 169 #[.l A n c,.i k] w (SlP (2^k.toNat*val l) w):=by
 go_in
 go_wp2_with fail;refine(nShl_sl A n c l w h hn k hk hk1 hv).mono ?_;rintro e w1 ⟨X,x,rfl,HX,HB⟩;go_wp2;go_ret;exact⟨X,x,rfl,HX,HB⟩
theorem dbits_any(d:D)(A:Option Addr)(n c:Nat)(w:World)(h:Sl w A n c (limbs d.k))(hv:vld d):
 Calls Tryz.prog 140 #[.agg #[.b d.neg,.l A n c,.i d.e]] w (Ret (.i (blen d.k:Nat)) w):=by
 have H:=hI h;have hn:n≤256:=(by rw[←h.len];exact(vld_len hv));have hb:=vld_ebd hv;have hbb:=vld_bits hv;have HN:=hI h.len;have HV:=hI hv;clear h hv
 go_in
 go_wp2_with fail;obtain⟨w1,hw,HB1,_⟩:=aX w 75 #[.b d.neg,.l A n c,.i d.e];have F1a:=H.o.b9 HB1;have F1d:=hI (show Blk w1 (w.heap.size) 75 #[.b d.neg,.l A n c,.i d.e]by rw[hw];exact Blk.new _ _ _);rw[←hw];clear hw;have pd:=F1d.o.cell;go_wp2_with fail;refine(valid_yes d A n c w1 F1a.o HV.o).mono ?_;rintro e w2 ⟨rfl,HB2⟩;have F2d:=F1d.o.b9 HB2;clear pd;have pd:=F2d.o.cell;go_wp2_with fail;refine(size_any A n c _ w2 (F1a.o.belowW HB2.o) (by omega)).mono ?_;rw[val_limbs];rintro e w' ⟨rfl,rfl⟩;go_wp2;go_ret;exact⟨rfl,(HB1.o.t HB2)⟩
theorem top_any(d:D)(A:Option Addr)(n c:Nat)(w:World)(h:Sl w A n c (limbs d.k))(hv:vld d)(hz:d.k≠0):
 Calls Tryz.prog 167 #[.agg #[.b d.neg,.l A n c,.i d.e]] w (Ret (.i ((blen d.k:Int)+d.e)) w):=by
 have H:=hI h;have u:n≤256:=(by rw[←h.len];exact(vld_len hv));have v:=vld_ebd hv;have x:=vld_bits hv;have o:=hI h.len;have p:=hI hv;clear h hv;have y:n≠0:=(by rw[←o.o];intro h;have:=limbs_eq_nil.1 (List.eq_nil_of_length_eq_zero h);exact hz this);have z:((n:Int)==0)=false:=(by rw[beq_eq_false_iff_ne];omega);clear hz;have B:IntKind.i64.wrap ((blen d.k:Int)+d.e)=(blen d.k:Int)+d.e:=IntWalk.i64_in _ (by omega)
 go_in
 go_wp2_with fail;obtain⟨i,a,b,_⟩:=aX w 75 #[.b d.neg,.l A n c,.i d.e];have j:=H.o.b9 b;have l:=hI (show Blk i (w.heap.size) 75 #[.b d.neg,.l A n c,.i d.e]by rw[a];exact Blk.new _ _ _);rw[←a];clear a;have m:=l.o.cell;go_wp2_with fail;refine(valid_yes d A n c i j.o p.o).mono ?_;rintro e w2 ⟨rfl,g⟩;have r:=l.o.b9 g;clear m;have m:=r.o.cell;go_wp2_with fail;have s:=hI (show ∀q,Calls Tryz.prog 181 #[.l A n c] (w2.drewN q) (fun e w'=>e= .returned (.i (blen d.k:Nat))∧w2.drewN q=w')from fun q=>by have:=size_any A n c _ (w2.drewN q) ((j.o.belowW g.o).drewN q) (by omega);rwa [val_limbs]at this)
 go_quiet ((go_at_call 181;exact quiet_left (s.o _)))
 go_wp2;go_ret;exact⟨rfl,hI (below_drewN (b.o.trans (g.o.mono b.o.size)) _)⟩
theorem sign_zero(d:D)(A:Option Addr)(n c:Nat)(w:World)(h:Sl w A n c (limbs d.k))(hv:vld d)(hz:d.k=0):
 Calls Tryz.prog 120 #[.agg #[.b d.neg,.l A n c,.i d.e]] w (Ret (.i (sg d)) w):=by
 have H:=hI h;have hn:n≤256:=(by rw[←h.len];exact(vld_len hv));have hb:=vld_ebd hv;have hbb:=vld_bits hv;have HN:=hI h.len;have HV:=hI hv;clear h hv
 obtain rfl:n=0:=by rw[←HN.o,hz,limbs_zero];rfl
 have HR:=hI (show sg d=0 by unfold sg;rw[if_pos hz]);clear hz
 go_in
 go_wp2_with fail;obtain⟨w1,hw,HB1,F1d⟩:=aX w 75 #[.b d.neg,.l A 0 c,.i d.e];rw[←hw];clear hw;have pd:=F1d.o.cell;go_wp2_with fail;refine(valid_yes d A 0 c w1 (H.o.belowW HB1.o) HV.o).mono ?_;rintro e w2 ⟨rfl,HB2⟩;have F2d:=F1d.o.b9 HB2;clear pd;have pd:=F2d.o.cell;go_wp2;go_ret;exact⟨ret_int (by rw[HR.o]),(HB1.o.t HB2)⟩
theorem sign_neg(d:D)(A:Option Addr)(n c:Nat)(w:World)(h:Sl w A n c (limbs d.k))(hv:vld d)(hz:d.k≠0)(hg:d.neg=true):
 Calls Tryz.prog 120 #[.agg #[.b d.neg,.l A n c,.i d.e]] w (Ret (.i (sg d)) w):=by
 have H:=hI h;have hn:n≤256:=(by rw[←h.len];exact(vld_len hv));have hb:=vld_ebd hv;have hbb:=vld_bits hv;have HN:=hI h.len;have HV:=hI hv;clear h hv;have hk0:n≠0:=(by rw[←HN.o];intro h;have:=limbs_eq_nil.1 (List.eq_nil_of_length_eq_zero h);exact hz this);have dk:((n:Int)==0)=false:=(by rw[beq_eq_false_iff_ne];omega);have HR:=hI (show sg d= -1 by unfold sg;rw[if_neg hz];simp[hg]);have HG:=hI hg;clear hz hg
 go_in
 go_wp2_with fail;obtain⟨w1,hw,HB1,F1d⟩:=aX w 75 #[.b d.neg,.l A n c,.i d.e];rw[←hw];clear hw;obtain⟨pd0,fd0,pd1,fd1,pd2,fd2⟩:=F1d.o.al3;go_wp2_with fail;refine(valid_yes d A n c w1 (H.o.belowW HB1.o) HV.o).mono ?_;rintro e w2 ⟨rfl,HB2⟩;have F2d:=F1d.o.b9 HB2;clear pd0 pd1 pd2 fd0 fd1 fd2;obtain⟨pd0,fd0,pd1,fd1,pd2,fd2⟩:=F2d.o.al3;rw[HG.o]at pd0;go_wp2;go_ret;exact⟨ret_int (by rw[HR.o]),(HB1.o.t HB2)⟩
theorem sign_pos(d:D)(A:Option Addr)(n c:Nat)(w:World)(h:Sl w A n c (limbs d.k))(hv:vld d)(hz:d.k≠0)(hg:d.neg=false):
 Calls Tryz.prog 120 #[.agg #[.b d.neg,.l A n c,.i d.e]] w (Ret (.i (sg d)) w):=by
 have H:=hI h;have hn:n≤256:=(by rw[←h.len];exact(vld_len hv));have hb:=vld_ebd hv;have hbb:=vld_bits hv;have HN:=hI h.len;have HV:=hI hv;clear h hv;have hk0:n≠0:=(by rw[←HN.o];intro h;have:=limbs_eq_nil.1 (List.eq_nil_of_length_eq_zero h);exact hz this);have dk:((n:Int)==0)=false:=(by rw[beq_eq_false_iff_ne];omega);have HR:=hI (show sg d=1 by unfold sg;rw[if_neg hz];simp[hg]);have HG:=hI hg;clear hz hg
 go_in
 go_wp2_with fail;obtain⟨w1,hw,HB1,F1d⟩:=aX w 75 #[.b d.neg,.l A n c,.i d.e];rw[←hw];clear hw;obtain⟨pd0,fd0,pd1,fd1,pd2,fd2⟩:=F1d.o.al3;go_wp2_with fail;refine(valid_yes d A n c w1 (H.o.belowW HB1.o) HV.o).mono ?_;rintro e w2 ⟨rfl,HB2⟩;have F2d:=F1d.o.b9 HB2;clear pd0 pd1 pd2 fd0 fd1 fd2;obtain⟨pd0,fd0,pd1,fd1,pd2,fd2⟩:=F2d.o.al3;rw[HG.o]at pd0;go_wp2;go_ret;exact⟨ret_int (by rw[HR.o]),(HB1.o.t HB2)⟩
theorem sign_any(d:D)(A:Option Addr)(n c:Nat)(w:World)(h:Sl w A n c (limbs d.k))(hv:vld d):Calls Tryz.prog 120 #[.agg #[.b d.neg,.l A n c,.i d.e]] w (Ret (.i (sg d)) w):=by
 by_cases hz:d.k=0
 ·
  exact sign_zero d A n c w h hv hz
 cases hg:d.neg with
 | true=>rw[←hg];exact sign_neg d A n c w h hv hz hg
 | false=>rw[←hg];exact sign_pos d A n c w h hv hz hg
theorem neg_zero(d:D)(A:Option Addr)(n c:Nat)(w:World)(h:Sl w A n c (limbs d.k))(hv:vld d)(hz:d.k=0):
 Calls Tryz.prog 187 #[.agg #[.b d.neg,.l A n c,.i d.e]] w (DyR (negD d) w):=by
 have H:=hI h;have y:n≤256:=(by rw[←h.len];exact(vld_len hv));have z:=vld_ebd hv;have B:=vld_bits hv;have q:=hI h.len;have r:=hI hv;clear h hv
 obtain rfl:n=0:=by rw[←q.o,hz,limbs_zero];rfl
 have s:=hI (show negD d=⟨false,0,0⟩by unfold negD;rw[if_pos hz]);clear hz
 go_in
 go_wp2_with fail;obtain⟨b,a⟩:=eX (((w.alloc (.cells #[.b d.neg,.l A 0 c,.i d.e] 75)).alloc (.cells #[.b false,.sn,.i 0] 75)));have g:=hI (show Below w.heap.size w b by rw[a];exact below_a2 _ _ _);have i:=hI (show Blk b (w.heap.size) 75 #[.b d.neg,.l A 0 c,.i d.e]by rw[a];exact(Blk.new _ _ _).alloc _);have u:=hI (show Blk b (w.heap.size+1) 75 #[.b false,.sn,.i 0]by rw[a];exact Blk.new1 _ _ _ _);rw[←a];clear a;have m:=i.o.cell;have o:=i.o.frozen;go_wp2_with fail;refine(valid_yes d A 0 c b (H.o.belowW g.o) r.o).mono ?_;rintro e w2 ⟨rfl,j⟩;have p:=i.o.b9 j;have l:=u.o.b9 j;clear m o;have m:=p.o.cell;have o:=p.o.frozen;have x:=l.o.cell;have C:=l.o.frozen;go_wp2;refine bodyPost_ret (v:= .agg #[.b false,.sn,.i 0]) (by simp[results,Tryz.results187,go_sem,x]) rfl ?_;rw[s.o];exact⟨none,0,0,rfl,hI (by rw[limbs_zero];exact Sl.none_ _),hI (store3_below (g.o.trans (j.o.mono g.o.size)) l.o _ _ _ (by omega))⟩
theorem neg_pos(d:D)(A:Option Addr)(n c:Nat)(w:World)(h:Sl w A n c (limbs d.k))(hv:vld d)(hz:d.k≠0):
    Calls Tryz.prog 187 #[.agg #[.b d.neg,.l A n c,.i d.e]] w (DyR (negD d) w):=by
  have H:=hI h;have L:=hI (vld_len hv);have W:n≤256:=(by rw[←h.len];exact L.o);have X:=vld_ebd hv;have Z:=vld_bits hv;have M:=hI h.len;have N:=hI hv;clear h hv;have aa:n≠0:=(by rw[←M.o];intro h;have:=limbs_eq_nil.1 (List.eq_nil_of_length_eq_zero h);exact hz this);have dk:((n:Int)==0)=false:=(by rw[beq_eq_false_iff_ne];omega);have O:=hI (show negD d=⟨!d.neg,d.k,d.e⟩by unfold negD;rw[if_neg hz]);clear hz
  go_in
  go_wp2_with fail;obtain⟨j,g⟩:=eX (((w.alloc (.cells #[.b d.neg,.l A n c,.i d.e] 75)).alloc (.cells #[.b false,.sn,.i 0] 75)));have s:=hI (show Below w.heap.size w j by rw[g];exact below_a2 _ _ _);have u:=H.o.b9 s;have x:=hI (show Blk j (w.heap.size) 75 #[.b d.neg,.l A n c,.i d.e]by rw[g];exact(Blk.new _ _ _).alloc _);have P:=hI (show Blk j (w.heap.size+1) 75 #[.b false,.sn,.i 0]by rw[g];exact Blk.new1 _ _ _ _);rw[←g];clear g;obtain⟨m,z,o,B,p,C⟩:=x.o.al3;go_wp2_with fail;refine(valid_yes d A n c j u.o N.o).mono ?_;rintro e w2 ⟨rfl,l⟩;have Q:=u.o.b9 l;have E:=x.o.b9 l;have b:=P.o.b9 l;have F:=s.o.t l;clear m o p z B C;obtain⟨m,z,o,B,p,C⟩:=E.o.al3;have ac:(w2).cell? ⟨w.heap.size+1,0,none⟩=some (.b false):=b.o.cell 0;have ad:(w2).frozen? ⟨w.heap.size+1,0,none⟩=false:=b.o.frozen 0;have ae:(w2).cell? ⟨w.heap.size+1,1,none⟩=some (.sn):=b.o.cell 1;have af:(w2).frozen? ⟨w.heap.size+1,1,none⟩=false:=b.o.frozen 1;have ag:(w2).cell? ⟨w.heap.size+1,2,none⟩=some (.i 0):=b.o.cell 2;have ah:(w2).frozen? ⟨w.heap.size+1,2,none⟩=false:=b.o.frozen 2;go_wp2
  go_region_held3 (fun w'=>w'.cell? ⟨w.heap.size,0,none⟩=some (.b d.neg)∧w'.cell? ⟨w.heap.size,1,none⟩=some (.l A n c)∧w'.cell? ⟨w.heap.size,2,none⟩=some (.i d.e)) (first | exact⟨m,o,p⟩ | exact⟨G,I,J⟩ | exact⟨store3_far a.o G (by omega) _ _ _,store3_far a.o I (by omega) _ _ _,store3_far a.o J (by omega) _ _ _⟩) (first
    | (go_at_call 149
       refine(clone_any A n c _ _ (Q.o.drewN 1) (by omega)).mono ?_;rintro e x1 ⟨Y,y,rfl,R,i⟩;have q:=hI (show Below w2.heap.size w2 x1 from⟨i.o.os,i.o.tape,i.o.output,i.o.size,i.o.block⟩);have r:=E.o.b9 q;have a:=b.o.b9 q;have S:=hI R.o.sl;have G:x1.cell? ⟨w.heap.size,0,none⟩=some (.b d.neg):=r.o.cell 0;have I:x1.cell? ⟨w.heap.size,1,none⟩=some (.l A n c):=r.o.cell 1;have J:x1.cell? ⟨w.heap.size,2,none⟩=some (.i d.e):=r.o.cell 2;have T:x1.cell? ⟨w.heap.size+1,0,none⟩=some (.b false):=a.o.cell 0;have U:x1.cell? ⟨w.heap.size+1,1,none⟩=some (.sn):=a.o.cell 1;have V:x1.cell? ⟨w.heap.size+1,2,none⟩=some (.i 0):=a.o.cell 2;have g0:x1.frozen? ⟨w.heap.size+1,0,none⟩=false:=a.o.frozen 0;have g1:x1.frozen? ⟨w.heap.size+1,1,none⟩=false:=a.o.frozen 1
       have g2:x1.frozen? ⟨w.heap.size+1,2,none⟩=false:=a.o.frozen 2))
  go_wp2;refine bodyPost_ret (v:= .agg #[.b (!d.neg),.l Y n y,.i d.e]) (by simp[results,Tryz.results187,go_sem,T,U,V]) rfl ?_;rw[O.o];exact⟨Y,n,y,rfl,hI (store3_sl S.o a.o noU3 _ _ _),hI (store3_below (F.o.trans (q.o.mono F.o.size)) a.o _ _ _ (by omega))⟩
theorem neg_any(d:D)(A:Option Addr)(n c:Nat)(w:World)(h:Sl w A n c (limbs d.k))(hv:vld d):Calls Tryz.prog 187 #[.agg #[.b d.neg,.l A n c,.i d.e]] w (DyR (negD d) w):=by
 by_cases hz:d.k=0
 ·
  exact neg_zero d A n c w h hv hz
 exact neg_pos d A n c w h hv hz
end Go.Proofs.YtgcjmhjjpbcfmaaGreatDoor
namespace Go.Fl.Dy
open Go.Fl.Nm
theorem blen_div_le(m k:Nat):blen (m/2^k)≤blen m-k:=by
 by_cases h:m=0
 ·
  subst h;simp[blen_zero]
 have h1:=(blen_spec h).2;refine blen_le ?_
 rcases Nat.lt_or_ge (blen m) k with hk | hk
 ·
  rw[Nat.div_eq_of_lt (Nat.lt_of_lt_of_le h1 (Nat.pow_le_pow_right (by omega) (by omega)))];exact Nat.two_pow_pos _
 rw[Nat.div_lt_iff_lt_mul (Nat.two_pow_pos _),←Nat.pow_add,show blen m-k+k=blen m by omega];exact h1
theorem blen_mul_le(m k:Nat):blen (2^k*m)≤k+blen m:=by
 by_cases h:m=0
 ·
  subst h;simp[blen_zero]
 exact Nat.le_of_eq (blen_shl k h)
def precB(p:Int):Bool:=decide (8≤p∧p≤512)
end Go.Fl.Dy
namespace Go.Proofs.YtgcjmhjjpbcfmaaGreatDoor
open Go.RowKit Go.Fl Go.Fl.Nm Go.Fl.Dy
theorem rshl_any(A:Option Addr)(n c:Nat)(l:List Nat)(k:Int)(w:World)(h:Sl w A n c l)(hn:n≤256)(hk:0≤k)(hk1:k≤65536)(hv:blen (2^k.toNat*val l)≤8192):
 Calls Tryz.prog 142 #[.l A n c,.i k] w (SlP (2^k.toNat*val l) w):=by
 go_in
 go_wp2_with fail;refine(nShl_sl A n c l w h hn k hk hk1 hv).mono ?_;rintro e w1 ⟨X,x,rfl,HX,HB⟩;go_wp2;go_ret;exact⟨X,x,rfl,HX,HB⟩
theorem precise_any(p:Int)(w:World):
 Calls Tryz.prog 180 #[.i p] w fun e w'=>e= .returned (.b (precB p))∧w=w':=by
 by_cases h1:8≤p
 ·
  have d1:decide (8≤p)=true:=decide_eq_true h1
  by_cases h2:p≤512
  ·
   have d2:decide (p≤512)=true:=decide_eq_true h2;have HR:=hI (show precB p=true by simp[precB,h1,h2])
   go_in
   go_wp2
   go_ret;exact⟨ret_bool HR.o.symm,rfl⟩
  have d2:decide (p≤512)=false:=decide_eq_false h2;have HR:=hI (show precB p=false by simp[precB,h2])
  go_in
  go_wp2
  go_ret;exact⟨ret_bool HR.o.symm,rfl⟩
 have d1:decide (8≤p)=false:=decide_eq_false h1;have HR:=hI (show precB p=false by simp[precB,h1])
 go_in
 go_wp2
 go_ret;exact⟨ret_bool HR.o.symm,rfl⟩
def ShrP(v:Nat)(b:Bool)(w:World)(e:Ending)(w':World):Prop:=
  ∃(A:Option Addr) (n:Nat),e= .returned (.tuple #[.l A n n,.b b])∧Hid (Sl w' A n n (limbs v))∧Hid (Below w.heap.size w w')
theorem cmp_ne{a b:Nat}:(cmpN a b !=0)=decide (a≠b):=by
 unfold cmpN
 by_cases h1:a<b
 ·
  rw[if_pos h1];simp;omega
 rw[if_neg h1]
 by_cases h2:b<a
 ·
  rw[if_pos h2];simp;omega
 rw[if_neg h2];simp;omega
theorem rshr_any(A:Option Addr)(n c:Nat)(l:List Nat)(k:Int)(w:World)(h:Sl w A n c l)(hn:n≤256)(hk:0≤k):
 Calls Tryz.prog 230 #[.l A n c,.i k] w (ShrP (val l/2^k.toNat) (decide (val l%2^k.toNat≠0)) w):=by
 have H:=hI h
 have G:blen (val l)≤8192:=by
  have:=val_lt h.ok;rw[h.len,BB_pow,←Nat.pow_mul]at this;have:=blen_le this
  omega
 clear h
 obtain⟨b,i⟩:∃b:Nat,b=blen (val l):=⟨_,rfl⟩
 have s:=hI i.symm;rw[←i]at G
 by_cases hc:(b:Int)<k
 ·
  have I:decide ((b:Int)<k)=true:=decide_eq_true hc
  have F:=hI (show val l/2^(b:Int).toNat=val l/2^k.toNat by
   have d:=blen_lt (Nat.le_refl (blen (val l)));have g:val l<2^k.toNat:=Nat.lt_of_lt_of_le d (Nat.pow_le_pow_right (by omega) (by omega))
   rw[Int.toNat_natCast,Nat.div_eq_of_lt g,i,Nat.div_eq_of_lt d])
  have u:=hI (show decide (2^(b:Int).toNat*val (limbs (val l/2^k.toNat))≠val l)=decide (val l%2^k.toNat≠0)by
   have d:=blen_lt (Nat.le_refl (blen (val l)));have g:val l<2^k.toNat:=Nat.lt_of_lt_of_le d (Nat.pow_le_pow_right (by omega) (by omega));rw[val_limbs,Nat.div_eq_of_lt g,Nat.mod_eq_of_lt g,Nat.mul_zero,decide_eq_decide]
   omega)
  have j:=hI (show blen (val l/2^k.toNat)≤8192 by have:=blen_div_le (val l) k.toNat;omega);have z:=hI (show blen (2^(b:Int).toNat*val (limbs (val l/2^k.toNat)))≤8192 by rw[val_limbs];have d:=blen_div_le (val l) k.toNat;have g:=blen_mul_le (val l/2^k.toNat) (b:Int).toNat;omega);clear i hc
  go_in
  go_wp2_with fail;refine(bits_any A n c l w H.o (by omega)).mono ?_;rw[s.o];rintro e w' ⟨rfl,rfl⟩;go_wp2_with fail;refine(bits_any A n c l w H.o (by omega)).mono ?_;rw[s.o];rintro e w' ⟨rfl,rfl⟩;go_wp2_with fail;refine(nShr_sl A n c l w H.o hn (b:Int) (by omega) (by omega) (by rw[F.o];exact j.o)).mono ?_;rw[F.o];rintro e w1 ⟨X,x,rfl,m,o⟩;have p:=hI (m.o);have B:x≤256:=(by rw[←m.o.len];exact limbs_bits (by have:=j.o;omega));go_wp2_with fail;refine(rshl_any X x x _ (b:Int) w1 p.o B (by omega) (by omega) z.o).mono ?_;rintro e w2 ⟨Y,y,rfl,C,a⟩;have D:=o.o.t a;go_wp2_with fail;refine(cmp_any Y A y y n c _ l w2 (C.o) ((H.o.belowW o.o).belowW a.o)).mono ?_;rintro e w9 ⟨rfl,E,q⟩;have r:=hI (show Below w2.heap.size w2 w9 by rw[q];exact below_drewN (Below.refl _ _) E);clear q;rw[val_limbs];go_wp2;refine bodyPost_ret (v:= .tuple #[.l X x x,.b (decide (val l%2^k.toNat≠0))]) (by simp only[←u.o,←cmp_ne];simp[results,Tryz.results230,go_sem]) rfl ?_;exact⟨X,x,rfl,hI ((p.o.belowW a.o).belowW r.o),D.o.t r⟩
 have I:decide ((b:Int)<k)=false:=decide_eq_false hc
 have u:=hI (show decide (2^k.toNat*val (limbs (val l/2^k.toNat))≠val l)=decide (val l%2^k.toNat≠0)by
  rw[val_limbs,decide_eq_decide];have:=Nat.div_add_mod (val l) (2^k.toNat)
  omega)
 have j:=hI (show blen (val l/2^k.toNat)≤8192 by have:=blen_div_le (val l) k.toNat;omega);have z:=hI (show blen (2^k.toNat*val (limbs (val l/2^k.toNat)))≤8192 by rw[val_limbs];have d:=blen_div_le (val l) k.toNat;have g:=blen_mul_le (val l/2^k.toNat) k.toNat;omega);have J:k≤(b:Int):=(by omega);clear i hc
 go_in
 go_wp2_with fail;refine(bits_any A n c l w H.o (by omega)).mono ?_;rw[s.o];rintro e w' ⟨rfl,rfl⟩;go_wp2_with fail;refine(nShr_sl A n c l w H.o hn k (by omega) (by omega) (by exact j.o)).mono ?_;rintro e w1 ⟨X,x,rfl,m,o⟩;have p:=hI (m.o);have B:x≤256:=(by rw[←m.o.len];exact limbs_bits (by have:=j.o;omega));go_wp2_with fail;refine(rshl_any X x x _ k w1 p.o B (by omega) (by omega) z.o).mono ?_;rintro e w2 ⟨Y,y,rfl,C,a⟩;have D:=o.o.t a;go_wp2_with fail;refine(cmp_any Y A y y n c _ l w2 (C.o) ((H.o.belowW o.o).belowW a.o)).mono ?_;rintro e w9 ⟨rfl,E,q⟩;have r:=hI (show Below w2.heap.size w2 w9 by rw[q];exact below_drewN (Below.refl _ _) E);clear q;rw[val_limbs];go_wp2;refine bodyPost_ret (v:= .tuple #[.l X x x,.b (decide (val l%2^k.toNat≠0))]) (by simp only[←u.o,←cmp_ne];simp[results,Tryz.results230,go_sem]) rfl ?_;exact⟨X,x,rfl,hI ((p.o.belowW a.o).belowW r.o),D.o.t r⟩
def errP(p:Int):Int:=if precB p then 0 else 2
def FaultRel(w:World)(g m:Nat)(cs:Array Value)(k:Nat)(iv dv:Value)(wr:World):Prop:=
  ∃j:Nat,iv= .i j∧j≤m∧k=m-j∧Hid (Blk wr g 75 cs)∧Hid (Below w.heap.size w wr)
theorem fault1_any(p:Int)(g:Nat)(a:D)(A:Option Addr)(na ca:Nat)(w:World)(hB:Blk w g 75 #[.b a.neg,.l A na ca,.i a.e])(ha:Sl w A na ca (limbs a.k))(va:vld a):
 Calls Tryz.prog 139 #[.i p,.l (some ⟨g,0,none⟩) 1 1] w (Ret (.i (errP p)) w):=by
 have q:=hI hB;have r:=hI ha;have s:=hI va;clear hB ha va
 go_in
 go_wp2
 go_loopg [9,6] 1 (FaultRel w g 1 #[.b a.neg,.l A na ca,.i a.e])
 case atStart=>exact⟨0,rfl,by omega,by omega,q,hI (Below.refl _ _)⟩
 obtain⟨j,rfl,v,rfl,b,c⟩:=hrel
 by_cases hj0:j=0
 ·
  subst hj0;have x:wr.cell? ⟨g,0,none⟩=some (.b a.neg):=b.o.cell 0;have y:wr.cell? ⟨g,1,none⟩=some (.l A na ca):=b.o.cell 1;have z:wr.cell? ⟨g,2,none⟩=some (.i a.e):=b.o.cell 2
  go_wp2_with fail;obtain⟨u,l,m,_⟩:=aX wr 75 #[.b a.neg,.l A na ca,.i a.e];rw[←l];clear l;have n:=c.o.t m;refine(valid_yes a A na ca u (r.o.belowW n.o) s.o).mono ?_;rintro e w2 ⟨rfl,o⟩;go_wp2
  go_roundg 0
  case measure=>omega
  case rel=>exact⟨1,by go_num,by omega,by omega,(hI ((b.o.belowW m.o).belowW o.o)),(n.o.t o)⟩
 obtain rfl:j=1:=by omega
 cases hp:precB p with
 | true=>
  have d:=hI hp;have i:=hI (show errP p=0 by unfold errP;rw[hp];rfl);clear hp;go_wp2_with fail;refine(precise_any p wr).mono ?_;rintro e w' ⟨rfl,rfl⟩;rw[d.o];go_wp2;go_ret
  exact⟨ret_int i.o.symm,c⟩
 | false=>
  have d:=hI hp;have i:=hI (show errP p=2 by unfold errP;rw[hp];rfl);clear hp;go_wp2_with fail;refine(precise_any p wr).mono ?_;rintro e w' ⟨rfl,rfl⟩;rw[d.o];go_wp2;go_ret;exact⟨ret_int i.o.symm,c⟩
theorem fault2_any(p:Int)(g:Nat)(a:D)(A:Option Addr)(na ca:Nat)(b:D)(B:Option Addr)(nb cb:Nat)(w:World)(hB:Blk w g 75 #[.b a.neg,.l A na ca,.i a.e,.b b.neg,.l B nb cb,.i b.e])(ha:Sl w A na ca (limbs a.k))(va:vld a)(hb:Sl w B nb cb (limbs b.k))(vb:vld b):
 Calls Tryz.prog 139 #[.i p,.l (some ⟨g,0,none⟩) 2 2] w (Ret (.i (errP p)) w):=by
 have s:=hI hB;have u:=hI ha;have v:=hI va;have x:=hI hb;have y:=hI vb;clear hB ha va hb vb
 go_in
 go_wp2
 go_loopg [9,6] 2 (FaultRel w g 2 #[.b a.neg,.l A na ca,.i a.e,.b b.neg,.l B nb cb,.i b.e])
 case atStart=>exact⟨0,rfl,by omega,by omega,s,hI (Below.refl _ _)⟩
 obtain⟨j,rfl,F,rfl,c,n⟩:=hrel
 by_cases hj0:j=0
 ·
  subst hj0;have z:wr.cell? ⟨g,0,none⟩=some (.b a.neg):=c.o.cell 0;have C:wr.cell? ⟨g,1,none⟩=some (.l A na ca):=c.o.cell 1;have E:wr.cell? ⟨g,2,none⟩=some (.i a.e):=c.o.cell 2
  go_wp2_with fail;obtain⟨o,d,i,_⟩:=aX wr 75 #[.b a.neg,.l A na ca,.i a.e];rw[←d];clear d;have l:=n.o.t i;refine(valid_yes a A na ca o (u.o.belowW l.o) v.o).mono ?_;rintro e w2 ⟨rfl,m⟩;go_wp2
  go_roundg 1
  case measure=>omega
  case rel=>exact⟨1,by go_num,by omega,by omega,(hI ((c.o.belowW i.o).belowW m.o)),(l.o.t m)⟩
 by_cases hj1:j=1
 ·
  subst hj1;have z:wr.cell? ⟨g,3,none⟩=some (.b b.neg):=c.o.cell 3;have C:wr.cell? ⟨g,4,none⟩=some (.l B nb cb):=c.o.cell 4;have E:wr.cell? ⟨g,5,none⟩=some (.i b.e):=c.o.cell 5
  go_wp2_with fail;obtain⟨o,d,i,_⟩:=aX wr 75 #[.b b.neg,.l B nb cb,.i b.e];rw[←d];clear d;have l:=n.o.t i;refine(valid_yes b B nb cb o (x.o.belowW l.o) y.o).mono ?_;rintro e w2 ⟨rfl,m⟩;go_wp2
  go_roundg 0
  case measure=>omega
  case rel=>exact⟨2,by go_num,by omega,by omega,(hI ((c.o.belowW i.o).belowW m.o)),(l.o.t m)⟩
 obtain rfl:j=2:=by omega
 cases hp:precB p with
 | true=>
  have q:=hI hp;have r:=hI (show errP p=0 by unfold errP;rw[hp];rfl);clear hp;go_wp2_with fail;refine(precise_any p wr).mono ?_;rintro e w' ⟨rfl,rfl⟩;rw[q.o];go_wp2;go_ret
  exact⟨ret_int r.o.symm,n⟩
 | false=>
  have q:=hI hp;have r:=hI (show errP p=2 by unfold errP;rw[hp];rfl);clear hp;go_wp2_with fail;refine(precise_any p wr).mono ?_;rintro e w' ⟨rfl,rfl⟩;rw[q.o];go_wp2;go_ret;exact⟨ret_int r.o.symm,n⟩
end Go.Proofs.YtgcjmhjjpbcfmaaGreatDoor
namespace Go.Fl.Dy
open Go.Fl.Nm
theorem noUX{A:Option Addr}{n c:Nat}{e:Int}{a:Bool}:NoU #[.l A n c,.i e,.b a]:=by
 intro i x h
 match i with
 | 0=>simp at h
 | 1=>simp at h
 | 2=>simp at h
 | i+3=>simp at h
theorem cutU_low{m p:Nat}{e:Int}(hp:p≤512):e+blen m-p≤cutU m e p∧ -16384≤cutU m e p:=by unfold cutU;omega
theorem cut_bitsL{m p:Nat}{e:Int}(hp:p≤512)(h:cutU m e p≤e):blen (2^(e-cutU m e p).toNat*m)≤p:=by
 have h1:=(cutU_low (m:=m) (e:=e) hp).1
 by_cases h0:m=0
 ·
  subst h0;simp[blen_zero]
 rw[blen_shl _ h0];omega
theorem cut_bitsR{m p:Nat}{e:Int}(hp:p≤512)(h:e<cutU m e p):blen (m/2^(cutU m e p-e).toNat)≤p:=by
 have h1:=(cutU_low (m:=m) (e:=e) hp).1;have h2:=blen_div_le m (cutU m e p-e).toNat
 omega
theorem blen_succ(q:Nat):blen (q+1)≤blen q+1:=by
 refine blen_le ?_;have:=blen_lt (Nat.le_refl (blen q));rw[Nat.pow_succ];have:=Nat.two_pow_pos (blen q)
 omega
theorem blen_pred(p:Nat):blen (2^p-1)≤p:=blen_le (by have:=Nat.two_pow_pos p;omega)
end Go.Fl.Dy
namespace Go.Fl.Nm
open Go.RowKit Go.Fl
theorem Sl.one{w:World}{g:Nat}{t:TypeId}{x:Nat}(hB:Blk w g t #[.int .u32 (x:Int)])(hx:x<BB):Sl w (some ⟨g,0,none⟩) 1 1 [x]:=
 (Nw.of_blk (base:=0) (l:=[x]) hB (ok_cons.2 ⟨hx,ok_nil⟩) (Nat.zero_le _) rfl (by unfold maxLen;simp)).sl
end Go.Fl.Nm
namespace Go.Proofs.YtgcjmhjjpbcfmaaGreatDoor
open Go.RowKit Go.Fl Go.Fl.Nm Go.Fl.Dy
theorem cut_L(A:Option Addr)(n c:Nat)(l:List Nat)(ex:Int)(more up:Bool)(p:Nat)(w:World)(h:Sl w A n c l)(hT:RB w)(hn:n≤256)(h1: -1000000≤ex)(h2:ex≤40000)(hp:8≤p)(hp2:p≤512)(hs:cutU (val l) ex p≤ex):
    Calls Tryz.prog 186 #[.agg #[.l A n c,.i ex,.b more],.i p,.b up] w (DyE (cutR (val l) ex more p up) w):=by
  have H:=hI h;have HT:=hI hT
  have c7:blen (val l)≤8192:=by
    have:=val_lt h.ok;rw[h.len,BB_pow,←Nat.pow_mul]at this;have:=blen_le this
    omega
  clear h hT
  obtain⟨b,hb⟩:∃b:Int,b=(blen (val l):Nat):=⟨_,rfl⟩
  have cc:=hI hb.symm
  obtain⟨U,Q⟩:∃U:Int,U=cutU (val l) ex p:=⟨_,rfl⟩
  have bg:U=max (ex+b-p) (-16384):=(by rw[Q,hb];rfl);have c8:0≤b:=(by omega);have c9:b≤8192:=(by omega);have da: -16384≤U:=(by omega);have dc:U≤100000:=(by omega);have cd:=hI bg.symm;have W:=hI (show cutR (val l) ex more p up=if 16384<(blen (cutQ (val l) ex more p up):Int)+U then(if up then(⟨false,0,0⟩,9)else chk (canon false (2^p-1) (16384-p)))else chk (canon false (cutQ (val l) ex more p up) U)by rw[Q];rfl);rw[←Q]at hs;have dx:decide (U≤ex)=true:=decide_eq_true hs;have Z:=hI (show blen (2^(ex-U).toNat*val l)≤p by rw[Q];exact cut_bitsL hp2 (by rw[←Q];exact hs));have HU:=hI Q.symm;have de:U≥ex+b-p:=(by omega);clear hb Q bg;have s1:IntKind.i64.wrap (ex+b)=ex+b:=IntWalk.i64_in _ (by omega);have s2:IntKind.i64.wrap (ex+b-p)=ex+b-p:=IntWalk.i64_in _ (by omega)
  go_in
  go_wp2_with fail;obtain⟨w1,d⟩:=eX (((w.alloc (.cells #[.l A n c,.i ex,.b more] 206)).alloc (.cells #[.b false,.sn,.i 0] 75)));have a2:=hI (show Below w.heap.size w w1 by rw[d];exact below_a2 _ _ _);have bh:=H.o.b9 a2;have ce:=HT.o.b9 a2;have bi:=hI (show Blk w1 (w.heap.size) 206 #[.l A n c,.i ex,.b more]by rw[d];exact(Blk.new _ _ _).alloc _);have cf:=hI (show Blk w1 (w.heap.size+1) 75 #[.b false,.sn,.i 0]by rw[d];exact Blk.new1 _ _ _ _);rw[←d];clear d;obtain⟨aq,a3,ar,a4,a5,a6⟩:=bi.o.al3;go_wp2
  go_region_held3 (fun w'=>w'.cell? ⟨w.heap.size,0,none⟩=some (.l A n c)∧w'.cell? ⟨w.heap.size,1,none⟩=some (.i ex)) (first | exact⟨aq,ar⟩) (first
    | (go_at_call 144
       refine(bits_any A n c l _ (bh.o.drewN 1) (by omega)).mono ?_;rw[cc.o]
       rintro e x1 ⟨rfl,rfl⟩))
  go_wp2_with fail;rw[cd.o];obtain⟨w2,d⟩:=eX (w1.drewN 1);have ad:=hI (show Below w1.heap.size w1 w2 by rw[d];exact below_drewN (Below.refl _ _) _);rw[←d];clear d;have cg:=bh.o.b9 ad;have ch:=ce.o.b9 ad;have bj:=bi.o.b9 ad;have ci:=cf.o.b9 ad;have cj:=a2.o.t ad;clear aq ar a5 a3 a4 a6;obtain⟨aq,a3,ar,a4,a5,a6⟩:=bj.o.al3
  go_quiet (fail)
  rename_i nq
  go_wp2_with fail;obtain⟨w3,d⟩:=eX (w2.drewN nq);have ae:=hI (show Below w2.heap.size w2 w3 by rw[d];exact below_drewN (Below.refl _ _) _);rw[←d];clear d;have bl:=cg.o.b9 ae;have ck:=ch.o.b9 ae;have cl:=bj.o.b9 ae;have cm:=ci.o.b9 ae;have cn:=cj.o.t ae;clear aq ar a5 a3 a4 a6;refine(rshl_any A n c l (ex-U) w3 bl.o hn (by omega) (by omega) (by have:=Z.o;omega)).mono ?_;rintro e w4 ⟨X,x,rfl,HX,af⟩;have av:=bl.o.b9 af;have ab:=ck.o.b9 af;have aw:=cl.o.b9 af;have o:=cm.o.b9 af;have ag:=cn.o.t af;have E:=hI (HX.o);have hx:x≤256:=HX.o.lim (by have:=Z.o;omega)
  cases up with
  | false=>
    have q:=hI (show cutQ (val l) ex more p false=2^(ex-U).toNat*val l by unfold cutQ;rw[HU.o,if_pos hs];rfl);have L:=hI (show blen (2^(ex-U).toNat*val l)≤513 by have:=Z.o;omega);go_wp2_with fail;have ah:x≤256:=E.o.lim (by have:=L.o;omega)
    obtain⟨i,N⟩:∃z:Int,z=(blen (2^(ex-U).toNat*val l):Nat):=⟨_,rfl⟩
    have r:=hI N.symm;have bn:0≤i:=(by omega);have bo:i≤600:=(by have:=L.o;omega);clear N;refine(bits_any X x x _ w4 E.o (by omega)).mono ?_;rw[val_limbs,r.o];rintro e w' ⟨rfl,rfl⟩
    by_cases hbig:16384<i+U
    · have db:decide (16384<i+U)=true:=decide_eq_true hbig
      have s:=hI (show cutR (val l) ex more p false=chk (canon false (2^p-1) (16384-p))by rw[W.o,if_pos (by rw[q.o,r.o];exact hbig)];rfl);clear hbig;have bp:=hI (show 2^(p:Int).toNat*val [1]=2^p by rw[Int.toNat_natCast,val_cons,val_nil];simp);have br:=hI (show blen (2^p)≤8192 by have:=blen_mul_le 1 p;rw[Nat.mul_one]at this;have h1:blen 1=1:=rfl;omega);have bs:=hI (show val (limbs (2^p))-val [1]=2^p-1 by rw[val_limbs,val_cons,val_nil,Nat.mul_zero]);have bt:=hI (show blen (2^p-1)≤8192 by have:=blen_pred p;omega);have cp:=hI (show val [1]≤val (limbs (2^p))by rw[val_limbs,val_cons,val_nil,Nat.mul_zero];exact Nat.two_pow_pos p);go_wp2_with fail;obtain⟨j,d,a,a7⟩:=aX w4 157 #[.int .u32 1];rw[←d];clear d;have aj:=av.o.b9 a;have ak:=ab.o.b9 a;have al:=aw.o.b9 a;have g:=o.o.b9 a;have ac:=E.o.b9 a;have R:=ag.o.t a;have FO:=hI (Sl.one (x:=1) a7.o (by unfold BB;omega));refine(rshl_any (some ⟨w4.heap.size,0,none⟩) 1 1 [1] p j FO.o (by omega) (by omega) (by omega) (by rw[bp.o];exact br.o)).mono ?_;rw[bp.o];rintro e w6 ⟨S,sn,rfl,HS,m⟩;have a9:=aj.o.b9 m;have ax:=ak.o.b9 m;have ba:=al.o.b9 m;have F:=g.o.b9 m;have bb:=ac.o.b9 m;have bc:=FO.o.b9 m;have ay:=R.o.t m;have cq:=hI (HS.o);have cr:sn≤256:=HS.o.lim (by have:=br.o;omega);go_wp2_with fail;obtain⟨O,d,k,cs⟩:=aX w6 157 #[.int .u32 1];rw[←d];clear d;have bw:=a9.o.b9 k;have bx:=ax.o.b9 k;have bz:=ba.o.b9 k;have G:=F.o.b9 k;have b0:=bb.o.b9 k;have b1:=bc.o.b9 k;have b2:=cq.o.b9 k;have bd:=ay.o.t k;have b3:=hI (Sl.one (x:=1) cs.o (by unfold BB;omega));refine(nSub_sl S (some ⟨w6.heap.size,0,none⟩) sn sn 1 1 _ [1] O b2.o b3.o cr (by omega) cp.o (by rw[bs.o];exact bt.o)).mono ?_;rw[bs.o];rintro e w8 ⟨V,vn,rfl,b4,J⟩;have ct:=bw.o.b9 J;have b5:=bx.o.b9 J;have cu:=bz.o.b9 J;have cv:=G.o.b9 J;have cw:=b0.o.b9 J;have cx:=b1.o.b9 J;have cy:=b2.o.b9 J;have cz:=b3.o.b9 J;have c0:=bd.o.t J;have b6:=hI (b4.o);have c1:vn≤256:=b4.o.lim (by have:=bt.o;omega);go_wp2_with fail;refine(make_ok' false V vn vn (16384-p) _ w8 b6.o b5.o c1 (by omega) (by omega)).mono ?_;rw[val_limbs];rintro e w9 ⟨M,u,y,rfl,T,I⟩;have dh:=ct.o.b9 I;have di:=b5.o.b9 I;have dj:=cu.o.b9 I;have P:=cv.o.b9 I;have dk:=cw.o.b9 I;have dl:=cx.o.b9 I;have dm:=cy.o.b9 I;have dn:=cz.o.b9 I;have dp:=b6.o.b9 I;have c2:=c0.o.t I;have c3:=hI (T.o);have B:(w9).cell? ⟨w.heap.size+1,0,none⟩=some (.b false):=P.o.cell 0;have am:(w9).frozen? ⟨w.heap.size+1,0,none⟩=false:=P.o.frozen 0;have C:(w9).cell? ⟨w.heap.size+1,1,none⟩=some (.sn):=P.o.cell 1;have an:(w9).frozen? ⟨w.heap.size+1,1,none⟩=false:=P.o.frozen 1;have D:(w9).cell? ⟨w.heap.size+1,2,none⟩=some (.i 0):=P.o.cell 2;have ao:(w9).frozen? ⟨w.heap.size+1,2,none⟩=false:=P.o.frozen 2;go_wp2;refine bodyPost_ret (v:= .tuple #[.agg #[.b (chk (canon false (2^p-1) (16384-p))).1.neg,.l M u y,.i (chk (canon false (2^p-1) (16384-p))).1.e],.i (chk (canon false (2^p-1) (16384-p))).2]) (by simp[results,Tryz.results186,go_sem,B,C,D]) rfl ?_;rw[s.o];exact⟨M,u,y,rfl,hI (store3_sl c3.o P.o noU3 _ _ _),hI (store3_below c2.o P.o _ _ _ (by omega))⟩
    · have db:decide (16384<i+U)=false:=decide_eq_false hbig
      have s:=hI (show cutR (val l) ex more p false=chk (canon false (2^(ex-U).toNat*val l) U)by rw[W.o,if_neg (by rw[q.o,r.o];exact hbig),q.o]);have b7:U≤16384:=(by omega);clear hbig;go_wp2_with fail;refine(make_ok' false X x x U _ w4 E.o ab.o ah (by omega) (by omega)).mono ?_;rw[val_limbs];rintro e j ⟨M,u,y,rfl,T,a⟩;have aj:=av.o.b9 a;have ak:=ab.o.b9 a;have al:=aw.o.b9 a;have g:=o.o.b9 a;have ac:=E.o.b9 a;have R:=ag.o.t a;have bf:=hI (T.o);have B:(j).cell? ⟨w.heap.size+1,0,none⟩=some (.b false):=g.o.cell 0;have am:(j).frozen? ⟨w.heap.size+1,0,none⟩=false:=g.o.frozen 0;have C:(j).cell? ⟨w.heap.size+1,1,none⟩=some (.sn):=g.o.cell 1;have an:(j).frozen? ⟨w.heap.size+1,1,none⟩=false:=g.o.frozen 1;have D:(j).cell? ⟨w.heap.size+1,2,none⟩=some (.i 0):=g.o.cell 2;have ao:(j).frozen? ⟨w.heap.size+1,2,none⟩=false:=g.o.frozen 2;go_wp2;refine bodyPost_ret (v:= .tuple #[.agg #[.b (chk (canon false (2^(ex-U).toNat*val l) U)).1.neg,.l M u y,.i (chk (canon false (2^(ex-U).toNat*val l) U)).1.e],.i (chk (canon false (2^(ex-U).toNat*val l) U)).2]) (by simp[results,Tryz.results186,go_sem,B,C,D]) rfl ?_;rw[s.o]
      exact⟨M,u,y,rfl,hI (store3_sl bf.o g.o noU3 _ _ _),hI (store3_below R.o g.o _ _ _ (by omega))⟩
  | true=>
    cases more with
    | false=>
      have q:=hI (show cutQ (val l) ex false p true=2^(ex-U).toNat*val l by unfold cutQ;rw[HU.o,if_pos hs];rfl);have L:=hI (show blen (2^(ex-U).toNat*val l)≤513 by have:=Z.o;omega);go_wp2_with fail;have ah:x≤256:=E.o.lim (by have:=L.o;omega)
      obtain⟨i,N⟩:∃z:Int,z=(blen (2^(ex-U).toNat*val l):Nat):=⟨_,rfl⟩
      have r:=hI N.symm;have bn:0≤i:=(by omega);have bo:i≤600:=(by have:=L.o;omega);clear N;refine(bits_any X x x _ w4 E.o (by omega)).mono ?_;rw[val_limbs,r.o];rintro e w' ⟨rfl,rfl⟩
      by_cases hbig:16384<i+U
      · have db:decide (16384<i+U)=true:=decide_eq_true hbig
        have s:=hI (show cutR (val l) ex false p true=(⟨false,0,0⟩,9)by rw[W.o,if_pos (by rw[q.o,r.o];exact hbig)];rfl);clear hbig;have B:(w4).cell? ⟨w.heap.size+1,0,none⟩=some (.b false):=o.o.cell 0;have am:(w4).frozen? ⟨w.heap.size+1,0,none⟩=false:=o.o.frozen 0;have C:(w4).cell? ⟨w.heap.size+1,1,none⟩=some (.sn):=o.o.cell 1;have an:(w4).frozen? ⟨w.heap.size+1,1,none⟩=false:=o.o.frozen 1;have D:(w4).cell? ⟨w.heap.size+1,2,none⟩=some (.i 0):=o.o.cell 2;have ao:(w4).frozen? ⟨w.heap.size+1,2,none⟩=false:=o.o.frozen 2;go_wp2;refine bodyPost_ret (v:= .tuple #[.agg #[.b false,.sn,.i 0],.i 9]) (by simp[results,Tryz.results186,go_sem,B,C,D]) rfl ?_;rw[s.o];exact⟨none,0,0,rfl,hI (by rw[limbs_zero];exact Sl.none_ _),hI (store3_below ag.o o.o _ _ _ (by omega))⟩
      · have db:decide (16384<i+U)=false:=decide_eq_false hbig
        have s:=hI (show cutR (val l) ex false p true=chk (canon false (2^(ex-U).toNat*val l) U)by rw[W.o,if_neg (by rw[q.o,r.o];exact hbig),q.o]);have b7:U≤16384:=(by omega);clear hbig;go_wp2_with fail;refine(make_ok' false X x x U _ w4 E.o ab.o ah (by omega) (by omega)).mono ?_;rw[val_limbs];rintro e j ⟨M,u,y,rfl,T,a⟩;have aj:=av.o.b9 a;have ak:=ab.o.b9 a;have al:=aw.o.b9 a;have g:=o.o.b9 a;have ac:=E.o.b9 a;have R:=ag.o.t a;have bf:=hI (T.o);have B:(j).cell? ⟨w.heap.size+1,0,none⟩=some (.b false):=g.o.cell 0;have am:(j).frozen? ⟨w.heap.size+1,0,none⟩=false:=g.o.frozen 0;have C:(j).cell? ⟨w.heap.size+1,1,none⟩=some (.sn):=g.o.cell 1;have an:(j).frozen? ⟨w.heap.size+1,1,none⟩=false:=g.o.frozen 1;have D:(j).cell? ⟨w.heap.size+1,2,none⟩=some (.i 0):=g.o.cell 2;have ao:(j).frozen? ⟨w.heap.size+1,2,none⟩=false:=g.o.frozen 2;go_wp2;refine bodyPost_ret (v:= .tuple #[.agg #[.b (chk (canon false (2^(ex-U).toNat*val l) U)).1.neg,.l M u y,.i (chk (canon false (2^(ex-U).toNat*val l) U)).1.e],.i (chk (canon false (2^(ex-U).toNat*val l) U)).2]) (by simp[results,Tryz.results186,go_sem,B,C,D]) rfl ?_;rw[s.o]
        exact⟨M,u,y,rfl,hI (store3_sl bf.o g.o noU3 _ _ _),hI (store3_below R.o g.o _ _ _ (by omega))⟩
    | true=>
      have q:=hI (show cutQ (val l) ex true p true=2^(ex-U).toNat*val l+1 by unfold cutQ;rw[HU.o,if_pos hs];rfl);go_wp2_with fail;obtain⟨j,d,a,a7⟩:=aX w4 157 #[.int .u32 1];rw[←d];clear d;have aj:=av.o.b9 a;have ak:=ab.o.b9 a;have al:=aw.o.b9 a;have g:=o.o.b9 a;have ac:=E.o.b9 a;have R:=ag.o.t a;have FA:=hI (Sl.one (x:=1) a7.o (by unfold BB;omega));have ca:=hI (show val (limbs (2^(ex-U).toNat*val l))+val [1]=2^(ex-U).toNat*val l+1 by rw[val_limbs,val_cons,val_nil,Nat.mul_zero]);have c4:=hI (show blen (2^(ex-U).toNat*val l+1)≤8192 by have:=blen_succ (2^(ex-U).toNat*val l);have:=Z.o;omega);refine(nAdd_sl X (some ⟨w4.heap.size,0,none⟩) x x 1 1 _ [1] j ac.o FA.o hx (by omega) (by rw[ca.o];exact c4.o)).mono ?_;rw[ca.o];rintro e w6 ⟨Y,yn,rfl,HY,m⟩;have a9:=aj.o.b9 m;have ax:=ak.o.b9 m;have ba:=al.o.b9 m;have F:=g.o.b9 m;have bb:=ac.o.b9 m;have bc:=FA.o.b9 m;have ay:=R.o.t m;have az:=hI (HY.o);go_wp2_with fail;have L:=hI (show blen (2^(ex-U).toNat*val l+1)≤513 by have:=blen_succ (2^(ex-U).toNat*val l);have:=Z.o;omega);have ah:yn≤256:=az.o.lim (by have:=L.o;omega)
      obtain⟨i,N⟩:∃z:Int,z=(blen (2^(ex-U).toNat*val l+1):Nat):=⟨_,rfl⟩
      have r:=hI N.symm;have bn:0≤i:=(by omega);have bo:i≤600:=(by have:=L.o;omega);clear N;refine(bits_any Y yn yn _ w6 az.o (by omega)).mono ?_;rw[val_limbs,r.o];rintro e w' ⟨rfl,rfl⟩
      by_cases hbig:16384<i+U
      · have db:decide (16384<i+U)=true:=decide_eq_true hbig
        have s:=hI (show cutR (val l) ex true p true=(⟨false,0,0⟩,9)by rw[W.o,if_pos (by rw[q.o,r.o];exact hbig)];rfl);clear hbig;have B:(w6).cell? ⟨w.heap.size+1,0,none⟩=some (.b false):=F.o.cell 0;have am:(w6).frozen? ⟨w.heap.size+1,0,none⟩=false:=F.o.frozen 0;have C:(w6).cell? ⟨w.heap.size+1,1,none⟩=some (.sn):=F.o.cell 1;have an:(w6).frozen? ⟨w.heap.size+1,1,none⟩=false:=F.o.frozen 1;have D:(w6).cell? ⟨w.heap.size+1,2,none⟩=some (.i 0):=F.o.cell 2;have ao:(w6).frozen? ⟨w.heap.size+1,2,none⟩=false:=F.o.frozen 2;go_wp2;refine bodyPost_ret (v:= .tuple #[.agg #[.b false,.sn,.i 0],.i 9]) (by simp[results,Tryz.results186,go_sem,B,C,D]) rfl ?_;rw[s.o];exact⟨none,0,0,rfl,hI (by rw[limbs_zero];exact Sl.none_ _),hI (store3_below ay.o F.o _ _ _ (by omega))⟩
      · have db:decide (16384<i+U)=false:=decide_eq_false hbig
        have s:=hI (show cutR (val l) ex true p true=chk (canon false (2^(ex-U).toNat*val l+1) U)by rw[W.o,if_neg (by rw[q.o,r.o];exact hbig),q.o]);have b7:U≤16384:=(by omega);clear hbig;go_wp2_with fail;refine(make_ok' false Y yn yn U _ w6 az.o ax.o ah (by omega) (by omega)).mono ?_;rw[val_limbs];rintro e O ⟨M,u,y,rfl,T,k⟩;have bw:=a9.o.b9 k;have bx:=ax.o.b9 k;have bz:=ba.o.b9 k;have G:=F.o.b9 k;have b0:=bb.o.b9 k;have b1:=bc.o.b9 k;have dq:=az.o.b9 k;have bd:=ay.o.t k;have c6:=hI (T.o);have B:(O).cell? ⟨w.heap.size+1,0,none⟩=some (.b false):=G.o.cell 0;have am:(O).frozen? ⟨w.heap.size+1,0,none⟩=false:=G.o.frozen 0;have C:(O).cell? ⟨w.heap.size+1,1,none⟩=some (.sn):=G.o.cell 1;have an:(O).frozen? ⟨w.heap.size+1,1,none⟩=false:=G.o.frozen 1;have D:(O).cell? ⟨w.heap.size+1,2,none⟩=some (.i 0):=G.o.cell 2;have ao:(O).frozen? ⟨w.heap.size+1,2,none⟩=false:=G.o.frozen 2;go_wp2;refine bodyPost_ret (v:= .tuple #[.agg #[.b (chk (canon false (2^(ex-U).toNat*val l+1) U)).1.neg,.l M u y,.i (chk (canon false (2^(ex-U).toNat*val l+1) U)).1.e],.i (chk (canon false (2^(ex-U).toNat*val l+1) U)).2]) (by simp[results,Tryz.results186,go_sem,B,C,D]) rfl ?_;rw[s.o];exact⟨M,u,y,rfl,hI (store3_sl c6.o G.o noU3 _ _ _),hI (store3_below bd.o G.o _ _ _ (by omega))⟩
theorem cut_R(A:Option Addr)(n c:Nat)(l:List Nat)(ex:Int)(more up:Bool)(p:Nat)(w:World)(h:Sl w A n c l)(hT:RB w)(hn:n≤256)(h1: -1000000≤ex)(h2:ex≤40000)(hp:8≤p)(hp2:p≤512)(hs:ex<cutU (val l) ex p):
    Calls Tryz.prog 186 #[.agg #[.l A n c,.i ex,.b more],.i p,.b up] w (DyE (cutR (val l) ex more p up) w):=by
  have H:=hI h;have HT:=hI hT
  have dk:blen (val l)≤8192:=by
    have:=val_lt h.ok;rw[h.len,BB_pow,←Nat.pow_mul]at this;have:=blen_le this
    omega
  clear h hT
  obtain⟨b,hb⟩:∃b:Int,b=(blen (val l):Nat):=⟨_,rfl⟩
  have cx:=hI hb.symm
  obtain⟨U,hU⟩:∃U:Int,U=cutU (val l) ex p:=⟨_,rfl⟩
  have cn:U=max (ex+b-p) (-16384):=(by rw[hU,hb];rfl);have dl:0≤b:=(by omega);have dm:b≤8192:=(by omega);have dn: -16384≤U:=(by omega);have dp:U≤100000:=(by omega);have cy:=hI cn.symm;have Z:=hI (show cutR (val l) ex more p up=if 16384<(blen (cutQ (val l) ex more p up):Int)+U then(if up then(⟨false,0,0⟩,9)else chk (canon false (2^p-1) (16384-p)))else chk (canon false (cutQ (val l) ex more p up) U)by rw[hU];rfl);rw[←hU]at hs;have dx:decide (U≤ex)=false:=dF;have am:=hI (show blen (val l/2^(U-ex).toNat)≤p by rw[hU];exact cut_bitsR hp2 (by rw[←hU];exact hs));have HU:=hI hU.symm;clear hb hU cn;have s1:IntKind.i64.wrap (ex+b)=ex+b:=IntWalk.i64_in _ (by omega);have s2:IntKind.i64.wrap (ex+b-p)=ex+b-p:=IntWalk.i64_in _ (by omega)
  go_in
  go_wp2_with fail;obtain⟨w1,i⟩:=eX (((w.alloc (.cells #[.l A n c,.i ex,.b more] 206)).alloc (.cells #[.b false,.sn,.i 0] 75)));have bz:=hI (show Below w.heap.size w w1 by rw[i];exact below_a2 _ _ _);have co:=H.o.b9 bz;have cz:=HT.o.b9 bz;have cp:=hI (show Blk w1 (w.heap.size) 206 #[.l A n c,.i ex,.b more]by rw[i];exact(Blk.new _ _ _).alloc _);have c0:=hI (show Blk w1 (w.heap.size+1) 75 #[.b false,.sn,.i 0]by rw[i];exact Blk.new1 _ _ _ _);rw[←i];clear i;obtain⟨br,b0,bs,b1,b2,b3⟩:=cp.o.al3;go_wp2
  go_region_held3 (fun w'=>w'.cell? ⟨w.heap.size,0,none⟩=some (.l A n c)∧w'.cell? ⟨w.heap.size,1,none⟩=some (.i ex)) (first | exact⟨br,bs⟩) (first
    | (go_at_call 144
       refine(bits_any A n c l _ (co.o.drewN 1) (by omega)).mono ?_;rw[cx.o]
       rintro e x1 ⟨rfl,rfl⟩))
  go_wp2_with fail;rw[cy.o];obtain⟨w2,i⟩:=eX (w1.drewN 1);have a4:=hI (show Below w1.heap.size w1 w2 by rw[i];exact below_drewN (Below.refl _ _) _);rw[←i];clear i;have c1:=co.o.b9 a4;have c2:=cz.o.b9 a4;have cq:=cp.o.b9 a4;have c3:=c0.o.b9 a4;have c4:=bz.o.t a4;clear br bs b2 b0 b1 b3;obtain⟨br,b0,bs,b1,b2,b3⟩:=cq.o.al3
  go_quiet (fail)
  rename_i nq
  go_wp2_with fail;obtain⟨w3,i⟩:=eX (w2.drewN nq);have a5:=hI (show Below w2.heap.size w2 w3 by rw[i];exact below_drewN (Below.refl _ _) _);rw[←i];clear i;have cs:=c1.o.b9 a5;have c5:=c2.o.b9 a5;have c6:=cq.o.b9 a5;have c7:=c3.o.b9 a5;have c8:=c4.o.t a5;clear br bs b2 b0 b1 b3;obtain⟨lo,ct⟩:=eX (decide (val l%2^(U-ex).toNat≠0));have a2:=hI ct.symm;clear ct;refine(rshr_any A n c l (U-ex) w3 cs.o hn (by omega)).mono ?_;rw[a2.o];rintro e w4 ⟨X,x,rfl,HX,a6⟩;have ap:=cs.o.b9 a6;have aa:=c5.o.b9 a6;have aq:=c6.o.b9 a6;have N:=c7.o.b9 a6;have an:=c8.o.t a6;have L:=hI (HX.o);have hx:x≤256:=HX.o.lim (by have:=am.o;omega)
  cases more with
  | true=>
    cases up with
    | false=>
      have y:=hI (show cutQ (val l) ex true p false=val l/2^(U-ex).toNat by unfold cutQ;rw[HU.o,if_neg (by omega),a2.o];rfl);go_wp2_with fail;have O:=hI (show blen (val l/2^(U-ex).toNat)≤513 by have:=am.o;omega);have ae:x≤256:=L.o.lim (by have:=O.o;omega)
      obtain⟨k,P⟩:∃z:Int,z=(blen (val l/2^(U-ex).toNat):Nat):=⟨_,rfl⟩
      have B:=hI P.symm;have bu:0≤k:=(by omega);have bv:k≤600:=(by have:=O.o;omega);clear P;refine(bits_any X x x _ w4 L.o (by omega)).mono ?_;rw[val_limbs,B.o];rintro e w' ⟨rfl,rfl⟩
      by_cases hbig:16384<k+U
      · have db:decide (16384<k+U)=true:=decide_eq_true hbig
        have C:=hI (show cutR (val l) ex true p false=chk (canon false (2^p-1) (16384-p))by rw[Z.o,if_pos (by rw[y.o,B.o];exact hbig)];rfl);clear hbig;have a7:=hI (show 2^(p:Int).toNat*val [1]=2^p by rw[Int.toNat_natCast,val_cons,val_nil];simp);have a8:=hI (show blen (2^p)≤8192 by have:=blen_mul_le 1 p;rw[Nat.mul_one]at this;have h1:blen 1=1:=rfl;omega);have a9:=hI (show val (limbs (2^p))-val [1]=2^p-1 by rw[val_limbs,val_cons,val_nil,Nat.mul_zero]);have ba:=hI (show blen (2^p-1)≤8192 by have:=blen_pred p;omega);have b4:=hI (show val [1]≤val (limbs (2^p))by rw[val_limbs,val_cons,val_nil,Nat.mul_zero];exact Nat.two_pow_pos p);go_wp2_with fail;obtain⟨m,i,a,ar⟩:=aX w4 157 #[.int .u32 1];rw[←i];clear i;have ab:=ap.o.b9 a;have ac:=aa.o.b9 a;have ad:=aq.o.b9 a;have g:=N.o.b9 a;have T:=L.o.b9 a;have Q:=an.o.t a;have FO:=hI (Sl.one (x:=1) ar.o (by unfold BB;omega));refine(rshl_any (some ⟨w4.heap.size,0,none⟩) 1 1 [1] p m FO.o (by omega) (by omega) (by omega) (by rw[a7.o];exact a8.o)).mono ?_;rw[a7.o];rintro e w6 ⟨S,sn,rfl,HS,j⟩;have av:=ab.o.b9 j;have ag:=ac.o.b9 j;have aw:=ad.o.b9 j;have o:=g.o.b9 j;have ax:=T.o.b9 j;have ay:=FO.o.b9 j;have ah:=Q.o.t j;have b5:=hI (HS.o);have b6:sn≤256:=HS.o.lim (by have:=a8.o;omega);go_wp2_with fail;obtain⟨I,i,d,b7⟩:=aX w6 157 #[.int .u32 1];rw[←i];clear i;have bd:=av.o.b9 d;have be:=ag.o.b9 d;have bf:=aw.o.b9 d;have q:=o.o.b9 d;have bg:=ax.o.b9 d;have bh:=ay.o.b9 d;have bi:=b5.o.b9 d;have az:=ah.o.t d;have bj:=hI (Sl.one (x:=1) b7.o (by unfold BB;omega));refine(nSub_sl S (some ⟨w6.heap.size,0,none⟩) sn sn 1 1 _ [1] I bi.o bj.o b6 (by omega) b4.o (by rw[a9.o];exact ba.o)).mono ?_;rw[a9.o];rintro e w8 ⟨V,vn,rfl,bk,D⟩;have b8:=bd.o.b9 D;have bl:=be.o.b9 D;have ca:=bf.o.b9 D;have cb:=q.o.b9 D;have cc:=bg.o.b9 D;have cd:=bh.o.b9 D;have ce:=bi.o.b9 D;have cf:=bj.o.b9 D;have cg:=az.o.t D;have bm:=hI (bk.o);have ch:vn≤256:=bk.o.lim (by have:=ba.o;omega);go_wp2_with fail;refine(make_ok' false V vn vn (16384-p) _ w8 bm.o bl.o ch (by omega) (by omega)).mono ?_;rw[val_limbs];rintro e w9 ⟨M,s,u,rfl,R,r⟩;have da:=b8.o.b9 r;have dc:=bl.o.b9 r;have dd:=ca.o.b9 r;have J:=cb.o.b9 r;have de:=cc.o.b9 r;have df:=cd.o.b9 r;have dg:=ce.o.b9 r;have dh:=cf.o.b9 r;have di:=bm.o.b9 r;have ci:=cg.o.t r;have cj:=hI (R.o);have E:(w9).cell? ⟨w.heap.size+1,0,none⟩=some (.b false):=J.o.cell 0;have ai:(w9).frozen? ⟨w.heap.size+1,0,none⟩=false:=J.o.frozen 0;have F:(w9).cell? ⟨w.heap.size+1,1,none⟩=some (.sn):=J.o.cell 1;have aj:(w9).frozen? ⟨w.heap.size+1,1,none⟩=false:=J.o.frozen 1;have G:(w9).cell? ⟨w.heap.size+1,2,none⟩=some (.i 0):=J.o.cell 2;have ak:(w9).frozen? ⟨w.heap.size+1,2,none⟩=false:=J.o.frozen 2;go_wp2;refine bodyPost_ret (v:= .tuple #[.agg #[.b (chk (canon false (2^p-1) (16384-p))).1.neg,.l M s u,.i (chk (canon false (2^p-1) (16384-p))).1.e],.i (chk (canon false (2^p-1) (16384-p))).2]) (by simp[results,Tryz.results186,go_sem,E,F,G]) rfl ?_;rw[C.o];exact⟨M,s,u,rfl,hI (store3_sl cj.o J.o noU3 _ _ _),hI (store3_below ci.o J.o _ _ _ (by omega))⟩
      · have db:decide (16384<k+U)=false:=decide_eq_false hbig
        have C:=hI (show cutR (val l) ex true p false=chk (canon false (val l/2^(U-ex).toNat) U)by rw[Z.o,if_neg (by rw[y.o,B.o];exact hbig),y.o]);have bw:U≤16384:=(by omega);clear hbig;go_wp2_with fail;refine(make_ok' false X x x U _ w4 L.o aa.o ae (by omega) (by omega)).mono ?_;rw[val_limbs];rintro e m ⟨M,s,u,rfl,R,a⟩;have ab:=ap.o.b9 a;have ac:=aa.o.b9 a;have ad:=aq.o.b9 a;have g:=N.o.b9 a;have T:=L.o.b9 a;have Q:=an.o.t a;have bn:=hI (R.o);have E:(m).cell? ⟨w.heap.size+1,0,none⟩=some (.b false):=g.o.cell 0;have ai:(m).frozen? ⟨w.heap.size+1,0,none⟩=false:=g.o.frozen 0;have F:(m).cell? ⟨w.heap.size+1,1,none⟩=some (.sn):=g.o.cell 1;have aj:(m).frozen? ⟨w.heap.size+1,1,none⟩=false:=g.o.frozen 1;have G:(m).cell? ⟨w.heap.size+1,2,none⟩=some (.i 0):=g.o.cell 2;have ak:(m).frozen? ⟨w.heap.size+1,2,none⟩=false:=g.o.frozen 2;go_wp2;refine bodyPost_ret (v:= .tuple #[.agg #[.b (chk (canon false (val l/2^(U-ex).toNat) U)).1.neg,.l M s u,.i (chk (canon false (val l/2^(U-ex).toNat) U)).1.e],.i (chk (canon false (val l/2^(U-ex).toNat) U)).2]) (by simp[results,Tryz.results186,go_sem,E,F,G]) rfl ?_;rw[C.o]
        exact⟨M,s,u,rfl,hI (store3_sl bn.o g.o noU3 _ _ _),hI (store3_below Q.o g.o _ _ _ (by omega))⟩
    | true=>
      have y:=hI (show cutQ (val l) ex true p true=val l/2^(U-ex).toNat+1 by unfold cutQ;rw[HU.o,if_neg (by omega),a2.o];rfl);go_wp2_with fail;obtain⟨m,i,a,ar⟩:=aX w4 157 #[.int .u32 1];rw[←i];clear i;have ab:=ap.o.b9 a;have ac:=aa.o.b9 a;have ad:=aq.o.b9 a;have g:=N.o.b9 a;have T:=L.o.b9 a;have Q:=an.o.t a;have FA:=hI (Sl.one (x:=1) ar.o (by unfold BB;omega));have bp:=hI (show val (limbs (val l/2^(U-ex).toNat))+val [1]=val l/2^(U-ex).toNat+1 by rw[val_limbs,val_cons,val_nil,Nat.mul_zero]);have ck:=hI (show blen (val l/2^(U-ex).toNat+1)≤8192 by have:=blen_succ (val l/2^(U-ex).toNat);have:=am.o;omega);refine(nAdd_sl X (some ⟨w4.heap.size,0,none⟩) x x 1 1 _ [1] m T.o FA.o hx (by omega) (by rw[bp.o];exact ck.o)).mono ?_;rw[bp.o];rintro e w6 ⟨Y,W,rfl,HY,j⟩;have av:=ab.o.b9 j;have ag:=ac.o.b9 j;have aw:=ad.o.b9 j;have o:=g.o.b9 j;have ax:=T.o.b9 j;have ay:=FA.o.b9 j;have ah:=Q.o.t j;have al:=hI (HY.o);go_wp2_with fail;have O:=hI (show blen (val l/2^(U-ex).toNat+1)≤513 by have:=blen_succ (val l/2^(U-ex).toNat);have:=am.o;omega);have ae:W≤256:=al.o.lim (by have:=O.o;omega)
      obtain⟨k,P⟩:∃z:Int,z=(blen (val l/2^(U-ex).toNat+1):Nat):=⟨_,rfl⟩
      have B:=hI P.symm;have bu:0≤k:=(by omega);have bv:k≤600:=(by have:=O.o;omega);clear P;refine(bits_any Y W W _ w6 al.o (by omega)).mono ?_;rw[val_limbs,B.o];rintro e w' ⟨rfl,rfl⟩
      by_cases hbig:16384<k+U
      · have db:decide (16384<k+U)=true:=decide_eq_true hbig
        have C:=hI (show cutR (val l) ex true p true=(⟨false,0,0⟩,9)by rw[Z.o,if_pos (by rw[y.o,B.o];exact hbig)];rfl);clear hbig;have E:(w6).cell? ⟨w.heap.size+1,0,none⟩=some (.b false):=o.o.cell 0;have ai:(w6).frozen? ⟨w.heap.size+1,0,none⟩=false:=o.o.frozen 0;have F:(w6).cell? ⟨w.heap.size+1,1,none⟩=some (.sn):=o.o.cell 1;have aj:(w6).frozen? ⟨w.heap.size+1,1,none⟩=false:=o.o.frozen 1;have G:(w6).cell? ⟨w.heap.size+1,2,none⟩=some (.i 0):=o.o.cell 2;have ak:(w6).frozen? ⟨w.heap.size+1,2,none⟩=false:=o.o.frozen 2;go_wp2;refine bodyPost_ret (v:= .tuple #[.agg #[.b false,.sn,.i 0],.i 9]) (by simp[results,Tryz.results186,go_sem,E,F,G]) rfl ?_;rw[C.o];exact⟨none,0,0,rfl,hI (by rw[limbs_zero];exact Sl.none_ _),hI (store3_below ah.o o.o _ _ _ (by omega))⟩
      · have db:decide (16384<k+U)=false:=decide_eq_false hbig
        have C:=hI (show cutR (val l) ex true p true=chk (canon false (val l/2^(U-ex).toNat+1) U)by rw[Z.o,if_neg (by rw[y.o,B.o];exact hbig),y.o]);have bw:U≤16384:=(by omega);clear hbig;go_wp2_with fail;refine(make_ok' false Y W W U _ w6 al.o ag.o ae (by omega) (by omega)).mono ?_;rw[val_limbs];rintro e I ⟨M,s,u,rfl,R,d⟩;have bd:=av.o.b9 d;have be:=ag.o.b9 d;have bf:=aw.o.b9 d;have q:=o.o.b9 d;have bg:=ax.o.b9 d;have bh:=ay.o.b9 d;have dj:=al.o.b9 d;have az:=ah.o.t d;have cm:=hI (R.o);have E:(I).cell? ⟨w.heap.size+1,0,none⟩=some (.b false):=q.o.cell 0;have ai:(I).frozen? ⟨w.heap.size+1,0,none⟩=false:=q.o.frozen 0;have F:(I).cell? ⟨w.heap.size+1,1,none⟩=some (.sn):=q.o.cell 1;have aj:(I).frozen? ⟨w.heap.size+1,1,none⟩=false:=q.o.frozen 1;have G:(I).cell? ⟨w.heap.size+1,2,none⟩=some (.i 0):=q.o.cell 2;have ak:(I).frozen? ⟨w.heap.size+1,2,none⟩=false:=q.o.frozen 2;go_wp2;refine bodyPost_ret (v:= .tuple #[.agg #[.b (chk (canon false (val l/2^(U-ex).toNat+1) U)).1.neg,.l M s u,.i (chk (canon false (val l/2^(U-ex).toNat+1) U)).1.e],.i (chk (canon false (val l/2^(U-ex).toNat+1) U)).2]) (by simp[results,Tryz.results186,go_sem,E,F,G]) rfl ?_;rw[C.o]
        exact⟨M,s,u,rfl,hI (store3_sl cm.o q.o noU3 _ _ _),hI (store3_below az.o q.o _ _ _ (by omega))⟩
  | false=>
    cases up with
    | false=>
      have y:=hI (show cutQ (val l) ex false p false=val l/2^(U-ex).toNat by unfold cutQ;rw[HU.o,if_neg (by omega),a2.o];rfl);go_wp2_with fail;have O:=hI (show blen (val l/2^(U-ex).toNat)≤513 by have:=am.o;omega);have ae:x≤256:=L.o.lim (by have:=O.o;omega)
      obtain⟨k,P⟩:∃z:Int,z=(blen (val l/2^(U-ex).toNat):Nat):=⟨_,rfl⟩
      have B:=hI P.symm;have bu:0≤k:=(by omega);have bv:k≤600:=(by have:=O.o;omega);clear P;refine(bits_any X x x _ w4 L.o (by omega)).mono ?_;rw[val_limbs,B.o];rintro e w' ⟨rfl,rfl⟩
      by_cases hbig:16384<k+U
      · have db:decide (16384<k+U)=true:=decide_eq_true hbig
        have C:=hI (show cutR (val l) ex false p false=chk (canon false (2^p-1) (16384-p))by rw[Z.o,if_pos (by rw[y.o,B.o];exact hbig)];rfl);clear hbig;have a7:=hI (show 2^(p:Int).toNat*val [1]=2^p by rw[Int.toNat_natCast,val_cons,val_nil];simp);have a8:=hI (show blen (2^p)≤8192 by have:=blen_mul_le 1 p;rw[Nat.mul_one]at this;have h1:blen 1=1:=rfl;omega);have a9:=hI (show val (limbs (2^p))-val [1]=2^p-1 by rw[val_limbs,val_cons,val_nil,Nat.mul_zero]);have ba:=hI (show blen (2^p-1)≤8192 by have:=blen_pred p;omega);have b4:=hI (show val [1]≤val (limbs (2^p))by rw[val_limbs,val_cons,val_nil,Nat.mul_zero];exact Nat.two_pow_pos p);go_wp2_with fail;obtain⟨m,i,a,ar⟩:=aX w4 157 #[.int .u32 1];rw[←i];clear i;have ab:=ap.o.b9 a;have ac:=aa.o.b9 a;have ad:=aq.o.b9 a;have g:=N.o.b9 a;have T:=L.o.b9 a;have Q:=an.o.t a;have FO:=hI (Sl.one (x:=1) ar.o (by unfold BB;omega));refine(rshl_any (some ⟨w4.heap.size,0,none⟩) 1 1 [1] p m FO.o (by omega) (by omega) (by omega) (by rw[a7.o];exact a8.o)).mono ?_;rw[a7.o];rintro e w6 ⟨S,sn,rfl,HS,j⟩;have av:=ab.o.b9 j;have ag:=ac.o.b9 j;have aw:=ad.o.b9 j;have o:=g.o.b9 j;have ax:=T.o.b9 j;have ay:=FO.o.b9 j;have ah:=Q.o.t j;have b5:=hI (HS.o);have b6:sn≤256:=HS.o.lim (by have:=a8.o;omega);go_wp2_with fail;obtain⟨I,i,d,b7⟩:=aX w6 157 #[.int .u32 1];rw[←i];clear i;have bd:=av.o.b9 d;have be:=ag.o.b9 d;have bf:=aw.o.b9 d;have q:=o.o.b9 d;have bg:=ax.o.b9 d;have bh:=ay.o.b9 d;have bi:=b5.o.b9 d;have az:=ah.o.t d;have bj:=hI (Sl.one (x:=1) b7.o (by unfold BB;omega));refine(nSub_sl S (some ⟨w6.heap.size,0,none⟩) sn sn 1 1 _ [1] I bi.o bj.o b6 (by omega) b4.o (by rw[a9.o];exact ba.o)).mono ?_;rw[a9.o];rintro e w8 ⟨V,vn,rfl,bk,D⟩;have b8:=bd.o.b9 D;have bl:=be.o.b9 D;have ca:=bf.o.b9 D;have cb:=q.o.b9 D;have cc:=bg.o.b9 D;have cd:=bh.o.b9 D;have ce:=bi.o.b9 D;have cf:=bj.o.b9 D;have cg:=az.o.t D;have bm:=hI (bk.o);have ch:vn≤256:=bk.o.lim (by have:=ba.o;omega);go_wp2_with fail;refine(make_ok' false V vn vn (16384-p) _ w8 bm.o bl.o ch (by omega) (by omega)).mono ?_;rw[val_limbs];rintro e w9 ⟨M,s,u,rfl,R,r⟩;have da:=b8.o.b9 r;have dc:=bl.o.b9 r;have dd:=ca.o.b9 r;have J:=cb.o.b9 r;have de:=cc.o.b9 r;have df:=cd.o.b9 r;have dg:=ce.o.b9 r;have dh:=cf.o.b9 r;have di:=bm.o.b9 r;have ci:=cg.o.t r;have cj:=hI (R.o);have E:(w9).cell? ⟨w.heap.size+1,0,none⟩=some (.b false):=J.o.cell 0;have ai:(w9).frozen? ⟨w.heap.size+1,0,none⟩=false:=J.o.frozen 0;have F:(w9).cell? ⟨w.heap.size+1,1,none⟩=some (.sn):=J.o.cell 1;have aj:(w9).frozen? ⟨w.heap.size+1,1,none⟩=false:=J.o.frozen 1;have G:(w9).cell? ⟨w.heap.size+1,2,none⟩=some (.i 0):=J.o.cell 2;have ak:(w9).frozen? ⟨w.heap.size+1,2,none⟩=false:=J.o.frozen 2;go_wp2;refine bodyPost_ret (v:= .tuple #[.agg #[.b (chk (canon false (2^p-1) (16384-p))).1.neg,.l M s u,.i (chk (canon false (2^p-1) (16384-p))).1.e],.i (chk (canon false (2^p-1) (16384-p))).2]) (by simp[results,Tryz.results186,go_sem,E,F,G]) rfl ?_;rw[C.o];exact⟨M,s,u,rfl,hI (store3_sl cj.o J.o noU3 _ _ _),hI (store3_below ci.o J.o _ _ _ (by omega))⟩
      · have db:decide (16384<k+U)=false:=decide_eq_false hbig
        have C:=hI (show cutR (val l) ex false p false=chk (canon false (val l/2^(U-ex).toNat) U)by rw[Z.o,if_neg (by rw[y.o,B.o];exact hbig),y.o]);have bw:U≤16384:=(by omega);clear hbig;go_wp2_with fail;refine(make_ok' false X x x U _ w4 L.o aa.o ae (by omega) (by omega)).mono ?_;rw[val_limbs];rintro e m ⟨M,s,u,rfl,R,a⟩;have ab:=ap.o.b9 a;have ac:=aa.o.b9 a;have ad:=aq.o.b9 a;have g:=N.o.b9 a;have T:=L.o.b9 a;have Q:=an.o.t a;have bn:=hI (R.o);have E:(m).cell? ⟨w.heap.size+1,0,none⟩=some (.b false):=g.o.cell 0;have ai:(m).frozen? ⟨w.heap.size+1,0,none⟩=false:=g.o.frozen 0;have F:(m).cell? ⟨w.heap.size+1,1,none⟩=some (.sn):=g.o.cell 1;have aj:(m).frozen? ⟨w.heap.size+1,1,none⟩=false:=g.o.frozen 1;have G:(m).cell? ⟨w.heap.size+1,2,none⟩=some (.i 0):=g.o.cell 2;have ak:(m).frozen? ⟨w.heap.size+1,2,none⟩=false:=g.o.frozen 2;go_wp2;refine bodyPost_ret (v:= .tuple #[.agg #[.b (chk (canon false (val l/2^(U-ex).toNat) U)).1.neg,.l M s u,.i (chk (canon false (val l/2^(U-ex).toNat) U)).1.e],.i (chk (canon false (val l/2^(U-ex).toNat) U)).2]) (by simp[results,Tryz.results186,go_sem,E,F,G]) rfl ?_;rw[C.o]
        exact⟨M,s,u,rfl,hI (store3_sl bn.o g.o noU3 _ _ _),hI (store3_below Q.o g.o _ _ _ (by omega))⟩
    | true=>
      cases lo with
      | false=>
        have y:=hI (show cutQ (val l) ex false p true=val l/2^(U-ex).toNat by unfold cutQ;rw[HU.o,if_neg (by omega),a2.o];rfl);go_wp2_with fail;have O:=hI (show blen (val l/2^(U-ex).toNat)≤513 by have:=am.o;omega);have ae:x≤256:=L.o.lim (by have:=O.o;omega)
        obtain⟨k,P⟩:∃z:Int,z=(blen (val l/2^(U-ex).toNat):Nat):=⟨_,rfl⟩
        have B:=hI P.symm;have bu:0≤k:=(by omega);have bv:k≤600:=(by have:=O.o;omega);clear P;refine(bits_any X x x _ w4 L.o (by omega)).mono ?_;rw[val_limbs,B.o];rintro e w' ⟨rfl,rfl⟩
        by_cases hbig:16384<k+U
        · have db:decide (16384<k+U)=true:=decide_eq_true hbig
          have C:=hI (show cutR (val l) ex false p true=(⟨false,0,0⟩,9)by rw[Z.o,if_pos (by rw[y.o,B.o];exact hbig)];rfl);clear hbig;have E:(w4).cell? ⟨w.heap.size+1,0,none⟩=some (.b false):=N.o.cell 0;have ai:(w4).frozen? ⟨w.heap.size+1,0,none⟩=false:=N.o.frozen 0;have F:(w4).cell? ⟨w.heap.size+1,1,none⟩=some (.sn):=N.o.cell 1;have aj:(w4).frozen? ⟨w.heap.size+1,1,none⟩=false:=N.o.frozen 1;have G:(w4).cell? ⟨w.heap.size+1,2,none⟩=some (.i 0):=N.o.cell 2;have ak:(w4).frozen? ⟨w.heap.size+1,2,none⟩=false:=N.o.frozen 2;go_wp2;refine bodyPost_ret (v:= .tuple #[.agg #[.b false,.sn,.i 0],.i 9]) (by simp[results,Tryz.results186,go_sem,E,F,G]) rfl ?_;rw[C.o];exact⟨none,0,0,rfl,hI (by rw[limbs_zero];exact Sl.none_ _),hI (store3_below an.o N.o _ _ _ (by omega))⟩
        · have db:decide (16384<k+U)=false:=decide_eq_false hbig
          have C:=hI (show cutR (val l) ex false p true=chk (canon false (val l/2^(U-ex).toNat) U)by rw[Z.o,if_neg (by rw[y.o,B.o];exact hbig),y.o]);have bw:U≤16384:=(by omega);clear hbig;go_wp2_with fail;refine(make_ok' false X x x U _ w4 L.o aa.o ae (by omega) (by omega)).mono ?_;rw[val_limbs];rintro e m ⟨M,s,u,rfl,R,a⟩;have ab:=ap.o.b9 a;have ac:=aa.o.b9 a;have ad:=aq.o.b9 a;have g:=N.o.b9 a;have T:=L.o.b9 a;have Q:=an.o.t a;have bn:=hI (R.o);have E:(m).cell? ⟨w.heap.size+1,0,none⟩=some (.b false):=g.o.cell 0;have ai:(m).frozen? ⟨w.heap.size+1,0,none⟩=false:=g.o.frozen 0;have F:(m).cell? ⟨w.heap.size+1,1,none⟩=some (.sn):=g.o.cell 1;have aj:(m).frozen? ⟨w.heap.size+1,1,none⟩=false:=g.o.frozen 1;have G:(m).cell? ⟨w.heap.size+1,2,none⟩=some (.i 0):=g.o.cell 2;have ak:(m).frozen? ⟨w.heap.size+1,2,none⟩=false:=g.o.frozen 2;go_wp2;refine bodyPost_ret (v:= .tuple #[.agg #[.b (chk (canon false (val l/2^(U-ex).toNat) U)).1.neg,.l M s u,.i (chk (canon false (val l/2^(U-ex).toNat) U)).1.e],.i (chk (canon false (val l/2^(U-ex).toNat) U)).2]) (by simp[results,Tryz.results186,go_sem,E,F,G]) rfl ?_;rw[C.o]
          exact⟨M,s,u,rfl,hI (store3_sl bn.o g.o noU3 _ _ _),hI (store3_below Q.o g.o _ _ _ (by omega))⟩
      | true=>
        have y:=hI (show cutQ (val l) ex false p true=val l/2^(U-ex).toNat+1 by unfold cutQ;rw[HU.o,if_neg (by omega),a2.o];rfl);go_wp2_with fail;obtain⟨m,i,a,ar⟩:=aX w4 157 #[.int .u32 1];rw[←i];clear i;have ab:=ap.o.b9 a;have ac:=aa.o.b9 a;have ad:=aq.o.b9 a;have g:=N.o.b9 a;have T:=L.o.b9 a;have Q:=an.o.t a;have FA:=hI (Sl.one (x:=1) ar.o (by unfold BB;omega));have bp:=hI (show val (limbs (val l/2^(U-ex).toNat))+val [1]=val l/2^(U-ex).toNat+1 by rw[val_limbs,val_cons,val_nil,Nat.mul_zero]);have ck:=hI (show blen (val l/2^(U-ex).toNat+1)≤8192 by have:=blen_succ (val l/2^(U-ex).toNat);have:=am.o;omega);refine(nAdd_sl X (some ⟨w4.heap.size,0,none⟩) x x 1 1 _ [1] m T.o FA.o hx (by omega) (by rw[bp.o];exact ck.o)).mono ?_;rw[bp.o];rintro e w6 ⟨Y,W,rfl,HY,j⟩;have av:=ab.o.b9 j;have ag:=ac.o.b9 j;have aw:=ad.o.b9 j;have o:=g.o.b9 j;have ax:=T.o.b9 j;have ay:=FA.o.b9 j;have ah:=Q.o.t j;have al:=hI (HY.o);go_wp2_with fail;have O:=hI (show blen (val l/2^(U-ex).toNat+1)≤513 by have:=blen_succ (val l/2^(U-ex).toNat);have:=am.o;omega);have ae:W≤256:=al.o.lim (by have:=O.o;omega)
        obtain⟨k,P⟩:∃z:Int,z=(blen (val l/2^(U-ex).toNat+1):Nat):=⟨_,rfl⟩
        have B:=hI P.symm;have bu:0≤k:=(by omega);have bv:k≤600:=(by have:=O.o;omega);clear P;refine(bits_any Y W W _ w6 al.o (by omega)).mono ?_;rw[val_limbs,B.o];rintro e w' ⟨rfl,rfl⟩
        by_cases hbig:16384<k+U
        · have db:decide (16384<k+U)=true:=decide_eq_true hbig
          have C:=hI (show cutR (val l) ex false p true=(⟨false,0,0⟩,9)by rw[Z.o,if_pos (by rw[y.o,B.o];exact hbig)];rfl);clear hbig;have E:(w6).cell? ⟨w.heap.size+1,0,none⟩=some (.b false):=o.o.cell 0;have ai:(w6).frozen? ⟨w.heap.size+1,0,none⟩=false:=o.o.frozen 0;have F:(w6).cell? ⟨w.heap.size+1,1,none⟩=some (.sn):=o.o.cell 1;have aj:(w6).frozen? ⟨w.heap.size+1,1,none⟩=false:=o.o.frozen 1;have G:(w6).cell? ⟨w.heap.size+1,2,none⟩=some (.i 0):=o.o.cell 2;have ak:(w6).frozen? ⟨w.heap.size+1,2,none⟩=false:=o.o.frozen 2;go_wp2;refine bodyPost_ret (v:= .tuple #[.agg #[.b false,.sn,.i 0],.i 9]) (by simp[results,Tryz.results186,go_sem,E,F,G]) rfl ?_;rw[C.o];exact⟨none,0,0,rfl,hI (by rw[limbs_zero];exact Sl.none_ _),hI (store3_below ah.o o.o _ _ _ (by omega))⟩
        · have db:decide (16384<k+U)=false:=decide_eq_false hbig
          have C:=hI (show cutR (val l) ex false p true=chk (canon false (val l/2^(U-ex).toNat+1) U)by rw[Z.o,if_neg (by rw[y.o,B.o];exact hbig),y.o]);have bw:U≤16384:=(by omega);clear hbig;go_wp2_with fail;refine(make_ok' false Y W W U _ w6 al.o ag.o ae (by omega) (by omega)).mono ?_;rw[val_limbs];rintro e I ⟨M,s,u,rfl,R,d⟩;have bd:=av.o.b9 d;have be:=ag.o.b9 d;have bf:=aw.o.b9 d;have q:=o.o.b9 d;have bg:=ax.o.b9 d;have bh:=ay.o.b9 d;have dj:=al.o.b9 d;have az:=ah.o.t d;have cm:=hI (R.o);have E:(I).cell? ⟨w.heap.size+1,0,none⟩=some (.b false):=q.o.cell 0;have ai:(I).frozen? ⟨w.heap.size+1,0,none⟩=false:=q.o.frozen 0;have F:(I).cell? ⟨w.heap.size+1,1,none⟩=some (.sn):=q.o.cell 1;have aj:(I).frozen? ⟨w.heap.size+1,1,none⟩=false:=q.o.frozen 1;have G:(I).cell? ⟨w.heap.size+1,2,none⟩=some (.i 0):=q.o.cell 2;have ak:(I).frozen? ⟨w.heap.size+1,2,none⟩=false:=q.o.frozen 2;go_wp2;refine bodyPost_ret (v:= .tuple #[.agg #[.b (chk (canon false (val l/2^(U-ex).toNat+1) U)).1.neg,.l M s u,.i (chk (canon false (val l/2^(U-ex).toNat+1) U)).1.e],.i (chk (canon false (val l/2^(U-ex).toNat+1) U)).2]) (by simp[results,Tryz.results186,go_sem,E,F,G]) rfl ?_;rw[C.o];exact⟨M,s,u,rfl,hI (store3_sl cm.o q.o noU3 _ _ _),hI (store3_below az.o q.o _ _ _ (by omega))⟩
theorem cut_any(A:Option Addr)(n c:Nat)(l:List Nat)(ex:Int)(more up:Bool)(p:Nat)(w:World)(h:Sl w A n c l)(hT:RB w)(hn:n≤256)(h1: -1000000≤ex)(h2:ex≤40000)(hp:8≤p)(hp2:p≤512):
 Calls Tryz.prog 186 #[.agg #[.l A n c,.i ex,.b more],.i p,.b up] w (DyE (cutR (val l) ex more p up) w):=by
 by_cases hs:cutU (val l) ex p≤ex
 ·
  exact cut_L A n c l ex more up p w h hT hn h1 h2 hp hp2 hs
 exact cut_R A n c l ex more up p w h hT hn h1 h2 hp hp2 (by omega)
theorem cutR_err(m:Nat)(e:Int)(more:Bool)(p:Nat)(up:Bool):(cutR m e more p up).2=0∨(cutR m e more p up).2=9:=by
 unfold cutR chk
 split
 ·
  split
  ·
   exact .inr rfl
  split
  ·
   exact .inl rfl
  exact .inr rfl
 split
 ·
  exact .inl rfl
 exact .inr rfl
theorem signed_any(neg:Bool)(A:Option Addr)(n c:Nat)(l:List Nat)(ex:Int)(more up:Bool)(p:Nat)(w:World)(h:Sl w A n c l)(hT:RB w)(hn:n≤256)(h1: -1000000≤ex)(h2:ex≤40000)(hp:8≤p)(hp2:p≤512):
 Calls Tryz.prog 143 #[.b neg,.agg #[.l A n c,.i ex,.b more],.i p,.b up] w (DyE (sgnR neg (val l) ex more p up) w):=by
 have H:=hI h;have W:=hI hT;clear h hT;obtain⟨z,B⟩:=eX ((up !=neg));have ak:=hI B.symm;have Z:=hI (show(!(up==neg))=z from B.symm);obtain⟨r,m⟩:=eX (cutR (val l) ex more p z);have HR:=hI m.symm;have ab:=hI (show vld r.1 by rw[m];exact cutR_vld _ _ _ _ _);have I:=hI (show sgnR neg (val l) ex more p up=if r.2=0∧neg=true then(negD r.1,0)else r by rw[m,B];rfl);have O:=cutR_err (val l) ex more p z;rw[←m]at O;clear B m
 go_in
 go_wp2_with fail;obtain⟨C,a⟩:=eX (((w.alloc (.cells #[.l A n c,.i ex,.b more] 206)).alloc (.cells #[.b false,.sn,.i 0] 75)));have J:=hI (show Below w.heap.size w C by rw[a];exact below_a2 _ _ _);have P:=hI (show Blk C (w.heap.size) 206 #[.l A n c,.i ex,.b more]by rw[a];exact(Blk.new _ _ _).alloc _);have ac:=hI (show Blk C (w.heap.size+1) 75 #[.b false,.sn,.i 0]by rw[a];exact Blk.new1 _ _ _ _);rw[←a];clear a;have pk:=P.o.cell;have fk:=P.o.frozen;go_wp2_with fail;rw[Z.o];refine(cut_any A n c l ex more z p C (H.o.belowW J.o) (W.o.belowW J.o) hn h1 h2 hp hp2).mono ?_;rw[HR.o];rintro e w2 ⟨X,x,i,rfl,HX,Q⟩;have D:=ac.o.b9 Q;have o:=J.o.t Q;have L:=hI (HX.o);clear pk fk;have R:w.heap.size+1<w2.heap.size:=Nat.lt_of_lt_of_le D.o.lt (Nat.le_refl _);obtain⟨d,S⟩:=r
 rcases O with h0 | h0
 ·
  change S=0 at h0
  subst h0
  cases neg with
  | true=>
   go_wp2_with fail;obtain⟨M,a,b,j⟩:=aX w2 75 #[.b d.neg,.l X x i,.i d.e];rw[←a];clear a;have T:=o.o.t b;have ag:w.heap.size+1≠w2.heap.size:=(by omega);refine(neg_any d X x i M (L.o.belowW b.o) ab.o).mono ?_;rintro e w4 ⟨Y,y,q,rfl,HY,N⟩;have s:=j.o.b9 N;have E:=s.o.cell;have F:=s.o.frozen;go_upto_region 4 with(fail);rw[store3_put s.o];obtain⟨w9,a⟩:=eX (putB w4 (w2.heap.size) 75 #[.b (negD d).neg,.l Y y q,.i (negD d).e]);have U:=hI (show Blk w9 (w2.heap.size) 75 #[.b (negD d).neg,.l Y y q,.i (negD d).e]by rw[a];exact s.o.put _);have G:=hI (show Blk w9 (w.heap.size+1) 75 #[.b false,.sn,.i 0]by rw[a];exact((D.o.belowW b.o).belowW N.o).far ag _);have ai:=hI (show Sl w9 Y y q (limbs (negD d).k)by rw[a];exact(HY.o).far s.o noU3 (putB_grown _ _ _ _));have aj:=hI (show Below w.heap.size w w9 by rw[a];exact(T.o.trans (N.o.mono T.o.size)).trans (putB_below _ _ _ _ (by omega)));rw[←a];clear a E F;have E:=U.o.cell;have F:=U.o.frozen;have u:=G.o.cell;have V:=G.o.frozen;go_wp2;refine bodyPost_ret (v:= .tuple #[.agg #[.b (negD d).neg,.l Y y q,.i (negD d).e],.i 0]) (by simp[results,Tryz.results143,go_sem,u]) rfl ?_;rw[show sgnR true (val l) ex more p up=(negD d,0)from I.o.trans (by simp)]
   exact⟨Y,y,q,rfl,hI (store3_sl ai.o G.o noU3 _ _ _),hI (store3_below aj.o G.o _ _ _ (by omega))⟩
  | false=>
   go_upto_region 2 with(fail);obtain⟨M,a,b,j⟩:=aX w2 75 #[.b d.neg,.l X x i,.i d.e];rw[←a];clear a;have g:=D.o.b9 b;have E:=j.o.cell;have F:=j.o.frozen;have u:=g.o.cell;have V:=g.o.frozen;clear R;go_wp2;refine bodyPost_ret (v:= .tuple #[.agg #[.b d.neg,.l X x i,.i d.e],.i 0]) (by simp[results,Tryz.results143,go_sem,u]) rfl ?_;rw[show sgnR false (val l) ex more p up=(d,0)from I.o.trans (by simp)];exact⟨X,x,i,rfl,hI (store3_sl (L.o.belowW b.o) g.o noU3 _ _ _),hI (store3_below (o.o.trans (b.o.mono o.o.size)) g.o _ _ _ (by omega))⟩
 change S=9 at h0
 subst h0;go_upto_region 2 with(fail);obtain⟨M,a,b,j⟩:=aX w2 75 #[.b d.neg,.l X x i,.i d.e];rw[←a];clear a;have g:=D.o.b9 b;have E:=j.o.cell;have F:=j.o.frozen;have u:=g.o.cell;have V:=g.o.frozen;clear R;go_wp2;refine bodyPost_ret (v:= .tuple #[.agg #[.b d.neg,.l X x i,.i d.e],.i 9]) (by simp[results,Tryz.results143,go_sem,u]) rfl ?_;rw[show sgnR neg (val l) ex more p up=(d,9)from I.o.trans (by simp)];exact⟨X,x,i,rfl,hI (store3_sl (L.o.belowW b.o) g.o noU3 _ _ _),hI (store3_below (o.o.trans (b.o.mono o.o.size)) g.o _ _ _ (by omega))⟩
end Go.Proofs.YtgcjmhjjpbcfmaaGreatDoor
namespace Go.Fl.Dy
open Go.Fl.Nm
def divE(a b:D)(p:Int)(up:Bool):D×Int:=if precB p then divR a b p.toNat up else(⟨false,0,0⟩,2)
theorem divE_vld(a b:D)(p:Int)(up:Bool):vld (divE a b p up).1:=by
 unfold divE divR
 split
 ·
  split
  ·
   exact vld_zero
  split
  ·
   exact vld_zero
  exact sgnR_vld _ _ _ _ _ _
 exact vld_zero
theorem precB_iff{p:Int}:precB p=true↔8≤p∧p≤512:=by simp[precB]
end Go.Fl.Dy
namespace Go.Proofs.YtgcjmhjjpbcfmaaGreatDoor
open Go.RowKit Go.Fl Go.Fl.Nm Go.Fl.Dy
theorem div_range(a b:D)(A B:Option Addr)(n c m d:Nat)(p:Int)(up:Bool)(w:World)(ha:Sl w A n c (limbs a.k))(hb:Sl w B m d (limbs b.k))(va:vld a)(vb:vld b)(hT:RB w)(hp:precB p=false):
 Calls Tryz.prog 112 #[.agg #[.b a.neg,.l A n c,.i a.e],.agg #[.b b.neg,.l B m d,.i b.e],.i p,.b up] w (DyE (divE a b p up) w):=by
 have s:=hI ha;have u:=hI hb;have x:=hI va;have y:=hI vb;have J:n≤256:=(by rw[←ha.len];exact vld_len va);have L:m≤256:=(by rw[←hb.len];exact vld_len vb);have M:=vld_ebd va;have N:=vld_ebd vb;have O:=vld_bits va;have P:=vld_bits vb;have Q:=hI ha.len;have R:=hI hb.len;clear ha hb va vb hT;have z:=hI (show errP p=2 by unfold errP;rw[hp];rfl);have C:=hI (show divE a b p up=(⟨false,0,0⟩,2)by unfold divE;rw[hp];rfl);clear hp
 go_in
 go_wp2_with fail;obtain⟨i,g⟩:=eX (((((w.alloc (.cells #[.b a.neg,.l A n c,.i a.e] 75)).alloc (.cells #[.b b.neg,.l B m d,.i b.e] 75)).alloc (.cells #[.b false,.sn,.i 0] 75)).alloc (.cells #[.b a.neg,.l A n c,.i a.e,.b b.neg,.l B m d,.i b.e] 75)));have j:=hI (show Below w.heap.size w i by rw[g];exact below_a4 _ _ _ _ _);have E:=hI (show Blk i (w.heap.size) 75 #[.b a.neg,.l A n c,.i a.e]by rw[g];exact(((Blk.new _ _ _).alloc _).alloc _).alloc _);have F:=hI (show Blk i (w.heap.size+1) 75 #[.b b.neg,.l B m d,.i b.e]by rw[g];exact((Blk.new1 _ _ _ _).alloc _).alloc _);have G:=hI (show Blk i (w.heap.size+1+1) 75 #[.b false,.sn,.i 0]by rw[g];exact(Blk.new2 _ _ _ _ _).alloc _);have H:=hI (show Blk i (w.heap.size+1+1+1) 75 #[.b a.neg,.l A n c,.i a.e,.b b.neg,.l B m d,.i b.e]by rw[g];exact Blk.new3 _ _ _ _ _ _);rw[←g];clear g;refine(fault2_any p (w.heap.size+1+1+1) a A n c b B m d i H.o (s.o.belowW j.o) x.o (u.o.belowW j.o) y.o).mono ?_;rintro e w2 ⟨rfl,l⟩;have q:=E.o.b9 l;have r:=F.o.b9 l;have o:=G.o.b9 l;rw[z.o];have S:=q.o.cell;have T:=q.o.frozen;have U:=r.o.cell;have V:=r.o.frozen;have I:=o.o.cell;have W:=o.o.frozen;go_wp2;refine bodyPost_ret (v:= .tuple #[.agg #[.b false,.sn,.i 0],.i 2]) (by simp[results,Tryz.results112,go_sem,I]) rfl ?_;rw[C.o];exact⟨none,0,0,rfl,hI (by rw[limbs_zero];exact Sl.none_ _),hI (store3_below (j.o.trans (l.o.mono j.o.size)) o.o _ _ _ (by omega))⟩
theorem div_zero(a b:D)(A B:Option Addr)(n c m d:Nat)(p:Int)(up:Bool)(w:World)(ha:Sl w A n c (limbs a.k))(hb:Sl w B m d (limbs b.k))(va:vld a)(vb:vld b)(hT:RB w)(hp:precB p=true)(hz:b.k=0):
 Calls Tryz.prog 112 #[.agg #[.b a.neg,.l A n c,.i a.e],.agg #[.b b.neg,.l B m d,.i b.e],.i p,.b up] w (DyE (divE a b p up) w):=by
 have u:=hI ha;have x:=hI hb;have y:=hI va;have z:=hI vb;have M:n≤256:=(by rw[←ha.len];exact vld_len va);have N:m≤256:=(by rw[←hb.len];exact vld_len vb);have O:=vld_ebd va;have P:=vld_ebd vb;have Q:=vld_bits va;have R:=vld_bits vb;have S:=hI ha.len;have C:=hI hb.len;clear ha hb va vb hT;have E:=hI (show errP p=0 by unfold errP;rw[hp];rfl);have F:=hI (show divE a b p up=(⟨false,0,0⟩,10)by unfold divE;rw[hp];unfold divR;rw[if_pos hz];rfl);have q:m=0:=(by rw[←C.o,hz,limbs_zero];rfl);have T:((m:Int)==0)=true:=(by simp[q]);clear hp hz q
 go_in
 go_wp2_with fail;obtain⟨i,g⟩:=eX (((((w.alloc (.cells #[.b a.neg,.l A n c,.i a.e] 75)).alloc (.cells #[.b b.neg,.l B m d,.i b.e] 75)).alloc (.cells #[.b false,.sn,.i 0] 75)).alloc (.cells #[.b a.neg,.l A n c,.i a.e,.b b.neg,.l B m d,.i b.e] 75)));have j:=hI (show Below w.heap.size w i by rw[g];exact below_a4 _ _ _ _ _);have G:=hI (show Blk i (w.heap.size) 75 #[.b a.neg,.l A n c,.i a.e]by rw[g];exact(((Blk.new _ _ _).alloc _).alloc _).alloc _);have H:=hI (show Blk i (w.heap.size+1) 75 #[.b b.neg,.l B m d,.i b.e]by rw[g];exact((Blk.new1 _ _ _ _).alloc _).alloc _);have I:=hI (show Blk i (w.heap.size+1+1) 75 #[.b false,.sn,.i 0]by rw[g];exact(Blk.new2 _ _ _ _ _).alloc _);have J:=hI (show Blk i (w.heap.size+1+1+1) 75 #[.b a.neg,.l A n c,.i a.e,.b b.neg,.l B m d,.i b.e]by rw[g];exact Blk.new3 _ _ _ _ _ _);rw[←g];clear g;refine(fault2_any p (w.heap.size+1+1+1) a A n c b B m d i J.o (u.o.belowW j.o) y.o (x.o.belowW j.o) z.o).mono ?_;rintro e w2 ⟨rfl,l⟩;have r:=G.o.b9 l;have s:=H.o.b9 l;have o:=I.o.b9 l;rw[E.o];have U:=r.o.cell;have V:=r.o.frozen;have W:=s.o.cell;have X:=s.o.frozen;have L:=o.o.cell;have Y:=o.o.frozen;go_wp2;refine bodyPost_ret (v:= .tuple #[.agg #[.b false,.sn,.i 0],.i 10]) (by simp[results,Tryz.results112,go_sem,L]) rfl ?_;rw[F.o];exact⟨none,0,0,rfl,hI (by rw[limbs_zero];exact Sl.none_ _),hI (store3_below (j.o.trans (l.o.mono j.o.size)) o.o _ _ _ (by omega))⟩
theorem div_null(a b:D)(A B:Option Addr)(n c m d:Nat)(p:Int)(up:Bool)(w:World)(ha:Sl w A n c (limbs a.k))(hb:Sl w B m d (limbs b.k))(va:vld a)(vb:vld b)(hT:RB w)(hp:precB p=true)(hz:b.k≠0)(hy:a.k=0):
 Calls Tryz.prog 112 #[.agg #[.b a.neg,.l A n c,.i a.e],.agg #[.b b.neg,.l B m d,.i b.e],.i p,.b up] w (DyE (divE a b p up) w):=by
 have u:=hI ha;have x:=hI hb;have y:=hI va;have z:=hI vb;have O:n≤256:=(by rw[←ha.len];exact vld_len va);have P:m≤256:=(by rw[←hb.len];exact vld_len vb);have Q:=vld_ebd va;have R:=vld_ebd vb;have S:=vld_bits va;have T:=vld_bits vb;have C:=hI ha.len;have E:=hI hb.len;clear ha hb va vb hT;have F:=hI (show errP p=0 by unfold errP;rw[hp];rfl);have G:=hI (show divE a b p up=(⟨false,0,0⟩,0)by unfold divE;rw[hp];unfold divR;rw[if_neg hz,if_pos hy];rfl);have H:m≠0:=(by rw[←E.o];intro h;exact hz (limbs_eq_nil.1 (List.eq_nil_of_length_eq_zero h)));have U:((m:Int)==0)=false:=(by rw[beq_eq_false_iff_ne];omega);have q:n=0:=(by rw[←C.o,hy,limbs_zero];rfl);have V:((n:Int)==0)=true:=(by simp[q]);clear hp hz H q hy
 go_in
 go_wp2_with fail;obtain⟨i,g⟩:=eX (((((w.alloc (.cells #[.b a.neg,.l A n c,.i a.e] 75)).alloc (.cells #[.b b.neg,.l B m d,.i b.e] 75)).alloc (.cells #[.b false,.sn,.i 0] 75)).alloc (.cells #[.b a.neg,.l A n c,.i a.e,.b b.neg,.l B m d,.i b.e] 75)));have j:=hI (show Below w.heap.size w i by rw[g];exact below_a4 _ _ _ _ _);have I:=hI (show Blk i (w.heap.size) 75 #[.b a.neg,.l A n c,.i a.e]by rw[g];exact(((Blk.new _ _ _).alloc _).alloc _).alloc _);have J:=hI (show Blk i (w.heap.size+1) 75 #[.b b.neg,.l B m d,.i b.e]by rw[g];exact((Blk.new1 _ _ _ _).alloc _).alloc _);have L:=hI (show Blk i (w.heap.size+1+1) 75 #[.b false,.sn,.i 0]by rw[g];exact(Blk.new2 _ _ _ _ _).alloc _);have M:=hI (show Blk i (w.heap.size+1+1+1) 75 #[.b a.neg,.l A n c,.i a.e,.b b.neg,.l B m d,.i b.e]by rw[g];exact Blk.new3 _ _ _ _ _ _);rw[←g];clear g;refine(fault2_any p (w.heap.size+1+1+1) a A n c b B m d i M.o (u.o.belowW j.o) y.o (x.o.belowW j.o) z.o).mono ?_;rintro e w2 ⟨rfl,l⟩;have r:=I.o.b9 l;have s:=J.o.b9 l;have o:=L.o.b9 l;rw[F.o];have W:=r.o.cell;have X:=r.o.frozen;have Y:=s.o.cell;have Z:=s.o.frozen;have N:=o.o.cell;have fr:=o.o.frozen;go_wp2;refine bodyPost_ret (v:= .tuple #[.agg #[.b false,.sn,.i 0],.i 0]) (by simp[results,Tryz.results112,go_sem,N]) rfl ?_;rw[G.o];exact⟨none,0,0,rfl,hI (by rw[limbs_zero];exact Sl.none_ _),hI (store3_below (j.o.trans (l.o.mono j.o.size)) o.o _ _ _ (by omega))⟩
theorem div_pos(a b:D)(A B:Option Addr)(n c m d:Nat)(p:Int)(up:Bool)(w:World)(ha:Sl w A n c (limbs a.k))(hb:Sl w B m d (limbs b.k))(va:vld a)(vb:vld b)(hT:RB w)(hp:precB p=true)(hz:b.k≠0)(hy:a.k≠0):
    Calls Tryz.prog 112 #[.agg #[.b a.neg,.l A n c,.i a.e],.agg #[.b b.neg,.l B m d,.i b.e],.i p,.b up] w (DyE (divE a b p up) w):=by
  have HA:=hI ha;have HB:=hI hb;have VA:=hI va;have VB:=hI vb;have HT:=hI hT;have hn:n≤256:=(by rw[←ha.len];exact vld_len va);have hm:m≤256:=(by rw[←hb.len];exact vld_len vb);have d5:=vld_ebd va;have d6:=vld_ebd vb;have d7:=vld_bits va;have d8:=vld_bits vb;have cv:=hI ha.len;have cw:=hI hb.len;clear ha hb va vb hT;have HE:=hI (show errP p=0 by unfold errP;rw[hp];rfl);have cy:m≠0:=(by rw[←cw.o];intro h;exact hz (limbs_eq_nil.1 (List.eq_nil_of_length_eq_zero h)));have dm:((m:Int)==0)=false:=(by rw[beq_eq_false_iff_ne];omega);have cz:n≠0:=(by rw[←cv.o];intro h;exact hy (limbs_eq_nil.1 (List.eq_nil_of_length_eq_zero h)));have dn:((n:Int)==0)=false:=(by rw[beq_eq_false_iff_ne];omega);have eb:=precB_iff.1 hp
  obtain⟨P,rfl⟩:∃P:Nat,p=P:=⟨p.toNat,by omega⟩
  obtain⟨k,hk⟩:∃k:Nat,k=divK a b P:=⟨_,rfl⟩
  have a0:(k:Int)=max 0 ((P:Int)+3+(blen b.k:Nat)-(blen a.k:Nat)):=by rw[hk];unfold divK;omega
  obtain⟨X,a1⟩:∃z:Int,z=(blen a.k:Nat):=⟨_,rfl⟩
  obtain⟨I,a2⟩:∃z:Int,z=(blen b.k:Nat):=⟨_,rfl⟩
  have bm:=hI a1.symm;have bn:=hI a2.symm;rw[←a1,←a2]at a0;have ec:0≤X:=(by omega);have ed:X≤4096:=(by omega);have ee:0≤I:=(by omega);have ef:I≤4096:=(by omega);have c0:=hI a0.symm;have eg:k≤5000:=(by omega);have bo:blen (2^k*a.k)≤8192:=(by rw[blen_shl k hy];omega);have bp:=hI bo;have bq:=hI (show 2^(k:Int).toNat*val (limbs a.k)=2^k*a.k by rw[val_limbs,Int.toNat_natCast]);have c1:=hI (show 0<val (limbs b.k)by rw[val_limbs];omega)
  obtain⟨q,Z⟩:∃q:Nat,q=2^k*a.k/b.k:=⟨_,rfl⟩
  obtain⟨rr,ab⟩:∃q:Nat,q=2^k*a.k%b.k:=⟨_,rfl⟩
  have HQ:=hI Z.symm;have c3:=hI ab.symm;have c4:=hI (show blen q≤8192 by rw[Z];have:=blen_mono (Nat.div_le_self (2^k*a.k) b.k);omega);have c5:=hI (show blen rr≤8192 by rw[ab];have:=blen_mono (Nat.mod_le (2^k*a.k) b.k);omega)
  obtain⟨br,a3⟩:∃z:Int,z=(blen rr:Nat):=⟨_,rfl⟩
  have c7:=hI a3.symm
  obtain⟨mo,ac⟩:∃z:Bool,z=decide (rr≠0):=⟨_,rfl⟩
  have eh:decide (0<br)=mo:=by
    rw[ac,decide_eq_decide,a3];have:=blen_zero_iff (n:=rr)
    omega
  have ei:=hI ac.symm
  obtain⟨ng,a6⟩:∃z:Bool,z=(a.neg !=b.neg):=⟨_,rfl⟩
  have ej:(!(a.neg==b.neg))=ng:=a6.symm
  have HF:=hI (show divE a b P up=sgnR ng q (a.e-k-b.e) mo P up by
    unfold divE;rw[hp];unfold divR;rw[if_neg hz,if_neg hy,a6,Z,ac,ab,hk,Int.toNat_natCast]
    rfl)
  have s1:IntKind.i64.wrap ((P:Int)+3)=P+3:=IntWalk.i64_in _ (by omega);have s2:IntKind.i64.wrap ((P:Int)+3+I)=P+3+I:=IntWalk.i64_in _ (by omega);have s3:IntKind.i64.wrap ((P:Int)+3+I-X)=P+3+I-X:=IntWalk.i64_in _ (by omega);have s4:IntKind.i64.wrap (a.e-(k:Int))=a.e-k:=IntWalk.i64_in _ (by omega);have s5:IntKind.i64.wrap (a.e-(k:Int)-b.e)=a.e-k-b.e:=IntWalk.i64_in _ (by omega);have c9:(0:Int)≤k:=(by omega);clear hp hz hy cy cz hk a0 a1 a2 bo Z ab a3 ac a6
  go_in
  go_wp2_with fail;obtain⟨J,C⟩:=eX (((((w.alloc (.cells #[.b a.neg,.l A n c,.i a.e] 75)).alloc (.cells #[.b b.neg,.l B m d,.i b.e] 75)).alloc (.cells #[.b false,.sn,.i 0] 75)).alloc (.cells #[.b a.neg,.l A n c,.i a.e,.b b.neg,.l B m d,.i b.e] 75)));have ad:=hI (show Below w.heap.size w J by rw[C];exact below_a4 _ _ _ _ _);have bs:=HA.o.b9 ad;have bt:=HB.o.b9 ad;have da:=HT.o.b9 ad;have db:=hI (show Blk J (w.heap.size) 75 #[.b a.neg,.l A n c,.i a.e]by rw[C];exact(((Blk.new _ _ _).alloc _).alloc _).alloc _);have dc:=hI (show Blk J (w.heap.size+1) 75 #[.b b.neg,.l B m d,.i b.e]by rw[C];exact((Blk.new1 _ _ _ _).alloc _).alloc _);have dd:=hI (show Blk J (w.heap.size+1+1) 75 #[.b false,.sn,.i 0]by rw[C];exact(Blk.new2 _ _ _ _ _).alloc _);have bu:=hI (show Blk J (w.heap.size+1+1+1) 75 #[.b a.neg,.l A n c,.i a.e,.b b.neg,.l B m d,.i b.e]by rw[C];exact Blk.new3 _ _ _ _ _ _);rw[←C];clear C;refine(fault2_any P (w.heap.size+1+1+1) a A n c b B m d J bu.o bs.o VA.o bt.o VB.o).mono ?_;rintro e w2 ⟨rfl,s⟩;have ae:=bs.o.b9 s;have af:=bt.o.b9 s;have de:=da.o.b9 s;have L:=db.o.b9 s;have l:=dc.o.b9 s;have E:=dd.o.b9 s;have ep:=bu.o.b9 s;have df:=ad.o.t s;rw[HE.o];obtain⟨N,ag,O,ah,R,ai⟩:=L.o.al3;have S:(w2).cell? ⟨w.heap.size+1,0,none⟩=some (.b b.neg):=l.o.cell 0;have aj:(w2).frozen? ⟨w.heap.size+1,0,none⟩=false:=l.o.frozen 0;have T:(w2).cell? ⟨w.heap.size+1,1,none⟩=some (.l B m d):=l.o.cell 1;have ak:(w2).frozen? ⟨w.heap.size+1,1,none⟩=false:=l.o.frozen 1;have U:(w2).cell? ⟨w.heap.size+1,2,none⟩=some (.i b.e):=l.o.cell 2;have al:(w2).frozen? ⟨w.heap.size+1,2,none⟩=false:=l.o.frozen 2;have am:(w2).cell? ⟨w.heap.size+1+1,0,none⟩=some (.b false):=E.o.cell 0;have an:(w2).frozen? ⟨w.heap.size+1+1,0,none⟩=false:=E.o.frozen 0;have ao:(w2).cell? ⟨w.heap.size+1+1,1,none⟩=some (.sn):=E.o.cell 1;have ap:(w2).frozen? ⟨w.heap.size+1+1,1,none⟩=false:=E.o.frozen 1;have aq:(w2).cell? ⟨w.heap.size+1+1,2,none⟩=some (.i 0):=E.o.cell 2;have ar:(w2).frozen? ⟨w.heap.size+1+1,2,none⟩=false:=E.o.frozen 2;go_wp2
  go_region_held3 (fun w'=>w'.cell? ⟨w.heap.size,0,none⟩=some (.b a.neg)∧w'.cell? ⟨w.heap.size,1,none⟩=some (.l A n c)∧w'.cell? ⟨w.heap.size,2,none⟩=some (.i a.e)∧w'.cell? ⟨w.heap.size+1,0,none⟩=some (.b b.neg)∧w'.cell? ⟨w.heap.size+1,1,none⟩=some (.l B m d)∧w'.cell? ⟨w.heap.size+1,2,none⟩=some (.i b.e)) (first | exact⟨N,O,R,S,T,U⟩ | exact⟨dg,dh,di,dj,dk,dl⟩ | exact⟨bv,bw,bx,bz,b0,b1⟩ | exact⟨a7,a8,a9,bc,bd,be⟩) (first
    | (go_at_call_of 140 (Value.agg #[.bool a.neg,.slice A n c,.int .i64 a.e])
       first
       | (refine(dbits_any a A n c _ (ae.o.drewN 1) VA.o).mono ?_
          rw[bm.o];rintro e xa ⟨rfl,g⟩;have V:=hI (show Below w2.heap.size w2 xa from⟨g.o.os,g.o.tape,g.o.output,g.o.size,g.o.block⟩);have eq:=ae.o.b9 V;have dp:=af.o.b9 V;have bf:=L.o.b9 V;have bg:=l.o.b9 V;have dg:xa.cell? ⟨w.heap.size,0,none⟩=some (.b a.neg):=bf.o.cell 0;have dh:xa.cell? ⟨w.heap.size,1,none⟩=some (.l A n c):=bf.o.cell 1;have di:xa.cell? ⟨w.heap.size,2,none⟩=some (.i a.e):=bf.o.cell 2;have dj:xa.cell? ⟨w.heap.size+1,0,none⟩=some (.b b.neg):=bg.o.cell 0;have dk:xa.cell? ⟨w.heap.size+1,1,none⟩=some (.l B m d):=bg.o.cell 1
          have dl:xa.cell? ⟨w.heap.size+1,2,none⟩=some (.i b.e):=bg.o.cell 2)
       | (refine(dbits_any a A n c _ dq.o VA.o).mono ?_
          rw[bm.o];rintro e x2 ⟨rfl,bh⟩;have i:=W.o.t bh;have u:=L.o.b9 i;have x:=l.o.b9 i;have a7:x2.cell? ⟨w.heap.size,0,none⟩=some (.b a.neg):=u.o.cell 0;have a8:x2.cell? ⟨w.heap.size,1,none⟩=some (.l A n c):=u.o.cell 1;have a9:x2.cell? ⟨w.heap.size,2,none⟩=some (.i a.e):=u.o.cell 2;have bc:x2.cell? ⟨w.heap.size+1,0,none⟩=some (.b b.neg):=x.o.cell 0;have bd:x2.cell? ⟨w.heap.size+1,1,none⟩=some (.l B m d):=x.o.cell 1
          have be:x2.cell? ⟨w.heap.size+1,2,none⟩=some (.i b.e):=x.o.cell 2))
    | (go_at_call_of 140 (Value.agg #[.bool b.neg,.slice B m d,.int .i64 b.e])
       first
       | (refine(dbits_any b B m d _ (af.o.drewN 1) VB.o).mono ?_
          rw[bn.o];rintro e xb ⟨rfl,g⟩;have W:=hI (show Below w2.heap.size w2 xb from⟨g.o.os,g.o.tape,g.o.output,g.o.size,g.o.block⟩);have dq:=ae.o.b9 W;have er:=af.o.b9 W;have bi:=L.o.b9 W;have bj:=l.o.b9 W;have bv:xb.cell? ⟨w.heap.size,0,none⟩=some (.b a.neg):=bi.o.cell 0;have bw:xb.cell? ⟨w.heap.size,1,none⟩=some (.l A n c):=bi.o.cell 1;have bx:xb.cell? ⟨w.heap.size,2,none⟩=some (.i a.e):=bi.o.cell 2;have bz:xb.cell? ⟨w.heap.size+1,0,none⟩=some (.b b.neg):=bj.o.cell 0;have b0:xb.cell? ⟨w.heap.size+1,1,none⟩=some (.l B m d):=bj.o.cell 1
          have b1:xb.cell? ⟨w.heap.size+1,2,none⟩=some (.i b.e):=bj.o.cell 2)
       | (refine(dbits_any b B m d _ dp.o VB.o).mono ?_
          rw[bn.o];rintro e x2 ⟨rfl,bh⟩;have i:=V.o.t bh;have u:=L.o.b9 i;have x:=l.o.b9 i;have a7:x2.cell? ⟨w.heap.size,0,none⟩=some (.b a.neg):=u.o.cell 0;have a8:x2.cell? ⟨w.heap.size,1,none⟩=some (.l A n c):=u.o.cell 1;have a9:x2.cell? ⟨w.heap.size,2,none⟩=some (.i a.e):=u.o.cell 2;have bc:x2.cell? ⟨w.heap.size+1,0,none⟩=some (.b b.neg):=x.o.cell 0;have bd:x2.cell? ⟨w.heap.size+1,1,none⟩=some (.l B m d):=x.o.cell 1
          have be:x2.cell? ⟨w.heap.size+1,2,none⟩=some (.i b.e):=x.o.cell 2)))
  go_wp2_with fail;rw[c0.o];clear u x N ag O ah R ai S aj T ak U al am an ao ap aq ar;clear bv bz bw b0 bx b1 a7 bc a8 bd a9 be;have b2:=ae.o.b9 i;have b3:=af.o.b9 i;have dr:=de.o.b9 i;have au:=L.o.b9 i;have o:=l.o.b9 i;have F:=E.o.b9 i;have ds:=df.o.t i;obtain⟨N,ag,O,ah,R,ai⟩:=au.o.al3;have S:(x2).cell? ⟨w.heap.size+1,0,none⟩=some (.b b.neg):=o.o.cell 0;have aj:(x2).frozen? ⟨w.heap.size+1,0,none⟩=false:=o.o.frozen 0;have T:(x2).cell? ⟨w.heap.size+1,1,none⟩=some (.l B m d):=o.o.cell 1;have ak:(x2).frozen? ⟨w.heap.size+1,1,none⟩=false:=o.o.frozen 1;have U:(x2).cell? ⟨w.heap.size+1,2,none⟩=some (.i b.e):=o.o.cell 2;have al:(x2).frozen? ⟨w.heap.size+1,2,none⟩=false:=o.o.frozen 2;have am:(x2).cell? ⟨w.heap.size+1+1,0,none⟩=some (.b false):=F.o.cell 0;have an:(x2).frozen? ⟨w.heap.size+1+1,0,none⟩=false:=F.o.frozen 0;have ao:(x2).cell? ⟨w.heap.size+1+1,1,none⟩=some (.sn):=F.o.cell 1;have ap:(x2).frozen? ⟨w.heap.size+1+1,1,none⟩=false:=F.o.frozen 1;have aq:(x2).cell? ⟨w.heap.size+1+1,2,none⟩=some (.i 0):=F.o.cell 2;have ar:(x2).frozen? ⟨w.heap.size+1+1,2,none⟩=false:=F.o.frozen 2
  go_region_held3 (fun w'=>w'.cell? ⟨w.heap.size,1,none⟩=some (.l A n c)∧w'.cell? ⟨w.heap.size+1,1,none⟩=some (.l B m d)) (first | exact⟨O,T⟩ | exact⟨u3,v3⟩ | exact⟨u4,v4⟩) (first
    | (go_at_call 142
       refine(rshl_any A n c _ k _ (b2.o.drewN 1) hn c9 (by omega) (by rw[bq.o];exact bp.o)).mono ?_;rw[bq.o];rintro e x3 ⟨Y,y,rfl,HY,g⟩;have H3:=hI (show Below x2.heap.size x2 x3 from⟨g.o.os,g.o.tape,g.o.output,g.o.size,g.o.block⟩);have B3:=b3.o.b9 H3;have ca:=au.o.b9 H3;have cb:=o.o.b9 H3;have du:y≤256:=HY.o.lim (by have:=bp.o;omega);have u3:x3.cell? ⟨w.heap.size,1,none⟩=some (.l A n c):=ca.o.cell 1
       have v3:x3.cell? ⟨w.heap.size+1,1,none⟩=some (.l B m d):=cb.o.cell 1)
    | (go_at_call 141
       refine(nDivMod_ok Y B y y m d _ _ _ HY.o B3.o du hm c1.o).mono ?_;rw[val_limbs,val_limbs,HQ.o,c3.o];rintro e x4 ⟨Q,R',qn,rn,rfl,dw,dx,dy⟩;have r:=H3.o.t dy;have cc:=au.o.b9 r;have cd:=o.o.b9 r;have u4:x4.cell? ⟨w.heap.size,1,none⟩=some (.l A n c):=cc.o.cell 1
       have v4:x4.cell? ⟨w.heap.size+1,1,none⟩=some (.l B m d):=cd.o.cell 1))
  go_wp2_with fail;clear ca cb cc cd u3 v3 u4 v4 N ag O ah R ai S aj T ak U al am an ao ap aq ar;have es:=b2.o.b9 r;have et:=b3.o.b9 r;have dz:=dr.o.b9 r;have ce:=au.o.b9 r;have G:=o.o.b9 r;have H:=F.o.b9 r;have cf:=ds.o.t r;have FQ:=hI dw.o.sl;have FR:=hI dx.o.sl;have d0:qn≤256:=FQ.o.lim (by have:=c4.o;omega);have eu:rn≤256:=FR.o.lim (by have:=c5.o;omega);obtain⟨N,ag,O,ah,R,ai⟩:=ce.o.al3;have S:(x4).cell? ⟨w.heap.size+1,0,none⟩=some (.b b.neg):=G.o.cell 0;have aj:(x4).frozen? ⟨w.heap.size+1,0,none⟩=false:=G.o.frozen 0;have T:(x4).cell? ⟨w.heap.size+1,1,none⟩=some (.l B m d):=G.o.cell 1;have ak:(x4).frozen? ⟨w.heap.size+1,1,none⟩=false:=G.o.frozen 1;have U:(x4).cell? ⟨w.heap.size+1,2,none⟩=some (.i b.e):=G.o.cell 2;have al:(x4).frozen? ⟨w.heap.size+1,2,none⟩=false:=G.o.frozen 2;have am:(x4).cell? ⟨w.heap.size+1+1,0,none⟩=some (.b false):=H.o.cell 0;have an:(x4).frozen? ⟨w.heap.size+1+1,0,none⟩=false:=H.o.frozen 0;have ao:(x4).cell? ⟨w.heap.size+1+1,1,none⟩=some (.sn):=H.o.cell 1;have ap:(x4).frozen? ⟨w.heap.size+1+1,1,none⟩=false:=H.o.frozen 1;have aq:(x4).cell? ⟨w.heap.size+1+1,2,none⟩=some (.i 0):=H.o.cell 2;have ar:(x4).frozen? ⟨w.heap.size+1+1,2,none⟩=false:=H.o.frozen 2
  go_region_held3 (fun w'=>w'.cell? ⟨w.heap.size,0,none⟩=some (.b a.neg)∧w'.cell? ⟨w.heap.size,2,none⟩=some (.i a.e)∧w'.cell? ⟨w.heap.size+1,0,none⟩=some (.b b.neg)∧w'.cell? ⟨w.heap.size+1,2,none⟩=some (.i b.e)) (first | exact⟨N,R,S,U⟩ | exact⟨ci,cj,ck,cl⟩ | exact⟨store3_far j.o ci (by omega) _ _ _,store3_far j.o cj (by omega) _ _ _,store3_far j.o ck (by omega) _ _ _,store3_far j.o cl (by omega) _ _ _⟩) (first
    | (go_at_call 144
       refine(bits_any R' rn rn _ _ (FR.o.drewN 1) (by omega)).mono ?_;rw[val_limbs,c7.o]
       rintro e x5' ⟨rfl,rfl⟩)
    | (go_at_call 143
       refine(signed_any ng Q qn qn _ (a.e-k-b.e) mo up P _ (FQ.o.drewN 1) (dz.o.drewN 1) d0 (by omega) (by omega) (by omega) (by omega)).mono ?_;rw[val_limbs,←HF.o];rintro e x5 ⟨M,mn,mc,rfl,HM,g⟩;have H5:=hI (show Below x4.heap.size x4 x5 from⟨g.o.os,g.o.tape,g.o.output,g.o.size,g.o.block⟩);have co:=ce.o.b9 H5;have cp:=G.o.b9 H5;have j:=H.o.b9 H5;have ci:x5.cell? ⟨w.heap.size,0,none⟩=some (.b a.neg):=co.o.cell 0;have cj:x5.cell? ⟨w.heap.size,2,none⟩=some (.i a.e):=co.o.cell 2;have ck:x5.cell? ⟨w.heap.size+1,0,none⟩=some (.b b.neg):=cp.o.cell 0;have cl:x5.cell? ⟨w.heap.size+1,2,none⟩=some (.i b.e):=cp.o.cell 2;have d2:x5.cell? ⟨w.heap.size+1+1,0,none⟩=some (.b false):=j.o.cell 0;have d3:x5.cell? ⟨w.heap.size+1+1,1,none⟩=some (.sn):=j.o.cell 1;have d4:x5.cell? ⟨w.heap.size+1+1,2,none⟩=some (.i 0):=j.o.cell 2;have ev:x5.frozen? ⟨w.heap.size+1+1,0,none⟩=false:=j.o.frozen 0;have ew:x5.frozen? ⟨w.heap.size+1+1,1,none⟩=false:=j.o.frozen 1
       have ex:x5.frozen? ⟨w.heap.size+1+1,2,none⟩=false:=j.o.frozen 2))
  go_wp2;refine bodyPost_ret (v:= .tuple #[.agg #[.b (divE a b P up).1.neg,.l M mn mc,.i (divE a b P up).1.e],.i (divE a b P up).2]) (by simp[results,Tryz.results112,go_sem,d2,d3,d4]) rfl ?_;exact⟨M,mn,mc,rfl,hI (store3_sl HM.o j.o noU3 _ _ _),hI (store3_below (cf.o.trans (H5.o.mono cf.o.size)) j.o _ _ _ (by omega))⟩
theorem div_any(a b:D)(A B:Option Addr)(n c m d:Nat)(p:Int)(up:Bool)(w:World)(ha:Sl w A n c (limbs a.k))(hb:Sl w B m d (limbs b.k))(va:vld a)(vb:vld b)(hT:RB w):
 Calls Tryz.prog 112 #[.agg #[.b a.neg,.l A n c,.i a.e],.agg #[.b b.neg,.l B m d,.i b.e],.i p,.b up] w (DyE (divE a b p up) w):=by
 cases hp:precB p with
 | false=>exact div_range a b A B n c m d p up w ha hb va vb hT hp
 | true=>
  by_cases hz:b.k=0
  ·
   exact div_zero a b A B n c m d p up w ha hb va vb hT hp hz
  by_cases hy:a.k=0
  ·
   exact div_null a b A B n c m d p up w ha hb va vb hT hp hz hy
  exact div_pos a b A B n c m d p up w ha hb va vb hT hp hz hy
theorem DivDown_any(a b:D)(A B:Option Addr)(n c m d:Nat)(p:Int)(w:World)(ha:Sl w A n c (limbs a.k))(hb:Sl w B m d (limbs b.k))(va:vld a)(vb:vld b)(hT:RB w):
 Calls Tryz.prog 68 #[.agg #[.b a.neg,.l A n c,.i a.e],.agg #[.b b.neg,.l B m d,.i b.e],.i p] w (DyE (divE a b p false) w):=by
 have r:=hI ha;have s:=hI hb;have u:=hI va;have y:=hI vb;have z:=hI hT;clear ha hb va vb hT
 go_in
 go_wp2_with fail;obtain⟨l,i⟩:=eX ((((w.alloc (.cells #[.b a.neg,.l A n c,.i a.e] 75)).alloc (.cells #[.b b.neg,.l B m d,.i b.e] 75)).alloc (.cells #[.b false,.sn,.i 0] 75)));have g:=hI (show Below w.heap.size w l by rw[i];exact below_a3 _ _ _ _);have C:=hI (show Blk l (w.heap.size+1+1) 75 #[.b false,.sn,.i 0]by rw[i];exact Blk.new2 _ _ _ _ _);rw[←i];clear i;refine(div_any a b A B n c m d p false l (r.o.belowW g.o) (s.o.belowW g.o) u.o y.o (z.o.belowW g.o)).mono ?_;rintro e w2 ⟨X,x,o,rfl,E,q⟩;have j:=C.o.b9 q;have F:=j.o.cell;have G:=j.o.frozen;go_wp2;refine bodyPost_ret (v:= .tuple #[.agg #[.b (divE a b p false).1.neg,.l X x o,.i (divE a b p false).1.e],.i (divE a b p false).2]) (by simp[results,Tryz.results68,go_sem,F]) rfl ?_;exact⟨X,x,o,rfl,hI (store3_sl (E.o) j.o noU3 _ _ _),hI (store3_below (g.o.trans (q.o.mono g.o.size)) j.o _ _ _ (by omega))⟩
theorem DivUp_any(a b:D)(A B:Option Addr)(n c m d:Nat)(p:Int)(w:World)(ha:Sl w A n c (limbs a.k))(hb:Sl w B m d (limbs b.k))(va:vld a)(vb:vld b)(hT:RB w):
 Calls Tryz.prog 70 #[.agg #[.b a.neg,.l A n c,.i a.e],.agg #[.b b.neg,.l B m d,.i b.e],.i p] w (DyE (divE a b p true) w):=by
 have r:=hI ha;have s:=hI hb;have u:=hI va;have y:=hI vb;have z:=hI hT;clear ha hb va vb hT
 go_in
 go_wp2_with fail;obtain⟨l,i⟩:=eX ((((w.alloc (.cells #[.b a.neg,.l A n c,.i a.e] 75)).alloc (.cells #[.b b.neg,.l B m d,.i b.e] 75)).alloc (.cells #[.b false,.sn,.i 0] 75)));have g:=hI (show Below w.heap.size w l by rw[i];exact below_a3 _ _ _ _);have C:=hI (show Blk l (w.heap.size+1+1) 75 #[.b false,.sn,.i 0]by rw[i];exact Blk.new2 _ _ _ _ _);rw[←i];clear i;refine(div_any a b A B n c m d p true l (r.o.belowW g.o) (s.o.belowW g.o) u.o y.o (z.o.belowW g.o)).mono ?_;rintro e w2 ⟨X,x,o,rfl,E,q⟩;have j:=C.o.b9 q;have F:=j.o.cell;have G:=j.o.frozen;go_wp2;refine bodyPost_ret (v:= .tuple #[.agg #[.b (divE a b p true).1.neg,.l X x o,.i (divE a b p true).1.e],.i (divE a b p true).2]) (by simp[results,Tryz.results70,go_sem,F]) rfl ?_;exact⟨X,x,o,rfl,hI (store3_sl (E.o) j.o noU3 _ _ _),hI (store3_below (g.o.trans (q.o.mono g.o.size)) j.o _ _ _ (by omega))⟩
