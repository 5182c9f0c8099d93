import Derived.Test.YtgcjmhjjpbcfmaaGreatDoorRe
import Derived.Test.YtgcjmhjjpbcfmaaGreatDoorQL
set_option linter.unusedVariables false
namespace Go.Fl.Pa
open Go.Fl.Lx Go.Fl.Fm Go.Fl.Rt
structure RgP where
  lo:Int×Int
  hi:Int×Int
structure DcP where
  s:List UInt8
  r:RgP
structure EqP where
  s:List UInt8
  T:TE
structure EdP where
  T:TE
  dir:Int
  tn:List UInt8
  rs:List EqP
structure MdP where
  s:List UInt8
  fl:List EqP
  ed:List EdP
structure PbP where
  st:List DcP
  pa:List DcP
  ms:List MdP
  tm:Int×Int
def kState:List UInt8:=[115,116,97,116,101]
def kParam:List UInt8:=[112,97,114,97,109]
def kIn:List UInt8:=[105,110]
def kMode:List UInt8:=[109,111,100,101]
def kWhen:List UInt8:=[119,104,101,110]
def kRises:List UInt8:=[114,105,115,101,115]
def kFalls:List UInt8:=[102,97,108,108,115]
def kGoto:List UInt8:=[103,111,116,111]
def kWith:List UInt8:=[119,105,116,104]
def kTime:List UInt8:=[116,105,109,101]
section
variable (nm:List UInt8→Bool) (ts:List Tok)
def wantP(kw:Bool)(s:List UInt8)(k:Nat):PR Unit:=if isS kw ts k s then .ok () (k+1)else unex ts k
def nmR(k:Nat):PR (List UInt8):=if(tk ts k).kind=1∧nm (tk ts k).text=true then .ok (tk ts k).text (k+1)else unex ts k
def spanP(k:Nat):PR RgP:=
  if isS false ts k [91]then
    (valP ts (k+1)).bind fun lo k1=>(wantP ts false [44] k1).bind fun _ k2=>(valP ts k2).bind fun hi k3=>(wantP ts false [93] k3).bind fun _ k4=> .ok ⟨lo,hi⟩ k4
  else(valP ts k).bind fun v k1=> .ok ⟨v,v⟩ k1
def declP(k:Nat):PR DcP:=
  (nmR nm ts k).bind fun n k1=>(wantP ts true kIn k1).bind fun _ k2=>(spanP ts k2).bind fun r k3=>(wantP ts false [59] k3).bind fun _ k4=> .ok ⟨n,r⟩ k4
def sumE(k:Nat):PR TE:=sumP nm ts (8*ts.length+8) k 0
def resP:Nat→Nat→List EqP→PR (List EqP)
  | 0,_,_=> .out
  | f+1,k,acc=>
    (nmR nm ts k).bind fun n k1=>(wantP ts false [61] k1).bind fun _ k2=>(sumE nm ts k2).bind fun e k3=>
      if isS false ts k3 [44]then resP f (k3+1) (acc++[⟨n,e⟩])else .ok (acc++[⟨n,e⟩]) k3
def dirP(k:Nat):PR Int:=if isS true ts k kRises then .ok 1 (k+1)else if isS true ts k kFalls then .ok 2 (k+1)else unex ts k
def withP(k:Nat):PR (List EqP):=if isS true ts k kWith then resP nm ts (ts.length+1) (k+1) []else .ok [] k
def edgeP(k:Nat):PR EdP:=
  (sumE nm ts k).bind fun g k1=>(dirP ts k1).bind fun d k2=>(wantP ts true kGoto k2).bind fun _ k3=>(nmR nm ts k3).bind fun n k4=>(withP nm ts k4).bind fun rs k5=>(wantP ts false [59] k5).bind fun _ k6=> .ok ⟨g,d,n,rs⟩ k6
def eqnP(k:Nat):PR EqP:=
  (nmR nm ts k).bind fun n k1=>(wantP ts false [39] k1).bind fun _ k2=>(wantP ts false [61] k2).bind fun _ k3=>(sumE nm ts k3).bind fun e k4=>(wantP ts false [59] k4).bind fun _ k5=> .ok ⟨n,e⟩ k5
def bodyP:Nat→Nat→List EqP→List EdP→PR (List EqP×List EdP)
  | 0,_,_,_=> .out
  | f+1,k,fl,ed=>
    if isS false ts k [125]then .ok (fl,ed) (k+1)
    else if isS true ts k kWhen then(edgeP nm ts (k+1)).bind fun x k1=>bodyP f k1 fl (ed++[x])
    else(eqnP nm ts k).bind fun q k1=>bodyP f k1 (fl++[q]) ed
def modeP(k:Nat):PR MdP:=
  (nmR nm ts k).bind fun n k1=>(wantP ts false [123] k1).bind fun _ k2=>(bodyP nm ts (ts.length+1) k2 [] []).bind fun b k3=> .ok ⟨n,b.1,b.2⟩ k3
def declsP:Nat→Nat→List DcP→List DcP→PR (List DcP×List DcP)
  | 0,_,_,_=> .out
  | f+1,k,st,pa=>
    if isS true ts k kState then(declP nm ts (k+1)).bind fun d k1=>declsP f k1 (st++[d]) pa
    else if isS true ts k kParam then(declP nm ts (k+1)).bind fun d k1=>declsP f k1 st (pa++[d])
    else .ok (st,pa) k
def modesP:Nat→Nat→List MdP→PR (List MdP)
  | 0,_,_=> .out
  | f+1,k,ms=>if isS true ts k kMode then(modeP nm ts (k+1)).bind fun m k1=>modesP f k1 (ms++[m])else .ok ms k
def probP(k:Nat):PR PbP:=
  (declsP nm ts (ts.length+1) k [] []).bind fun d k1=>(modesP nm ts (ts.length+1) k1 []).bind fun ms k2=>(wantP ts true kTime k2).bind fun _ k3=>(valP ts k3).bind fun t k4=>(wantP ts false [59] k4).bind fun _ k5=> .ok ⟨d.1,d.2,ms,t⟩ k5
end
section
variable {nm:List UInt8→Bool} {ts:List Tok}
end
def Fw{α:Type}(N k:Nat)(r:PR α):Prop:=∀a k1,r= .ok a k1→k<k1∧k1≤N
def Fq{α:Type}(N k:Nat)(r:PR α):Prop:=∀a k1,r= .ok a k1→k≤k1∧k1≤N
theorem Fw.q{α:Type}{N k:Nat}{r:PR α}(h:Fw N k r):Fq N k r:=fun a k1 e=>⟨Nat.le_of_lt (h a k1 e).1,(h a k1 e).2⟩
theorem fw_bind{α β:Type}{N k:Nat}{r:PR α}{f:α→Nat→PR β}(h1:Fw N k r)(h2:∀a k1,k1≤N→Fq N k1 (f a k1)):Fw N k (r.bind f):=fun b k2 h=>by
 cases r with
 | ok a k1=>
  have h3:=h1 a k1 rfl;have h4:=h2 a k1 h3.2 b k2 h
  exact⟨by omega,h4.2⟩
 | bad l c e=>cases h
 | out=>cases h
theorem fq_bind{α β:Type}{N k:Nat}{r:PR α}{f:α→Nat→PR β}(h1:Fq N k r)(h2:∀a k1,k1≤N→Fq N k1 (f a k1)):Fq N k (r.bind f):=fun b k2 h=>by
 cases r with
 | ok a k1=>
  have h3:=h1 a k1 rfl;have h4:=h2 a k1 h3.2 b k2 h
  exact⟨by omega,h4.2⟩
 | bad l c e=>cases h
 | out=>cases h
theorem fq_ok{α:Type}{N k:Nat}{a:α}(h:k≤N):Fq N k (.ok a k):=fun b k1 e=>by
 injection e with e1 e2;subst e2;exact⟨Nat.le_refl _,h⟩
theorem no_bind{α β:Type}{r:PR α}{f:α→Nat→PR β}(h1:r≠ .out)(h2:∀a k1,r= .ok a k1→f a k1≠ .out):r.bind f≠ .out:=fun h=>by
 cases r with
 | ok a k1=>exact h2 a k1 rfl h
 | bad l c e=>cases h
 | out=>exact h1 rfl
section
variable {nm:List UInt8→Bool} {ts:List Tok}
theorem want_fw(kw:Bool)(s:List UInt8)(k:Nat):Fw ts.length k (wantP ts kw s k):=fun a k1 h=>by
 unfold wantP at h
 split at h
 ·
  rename_i h2
  injection h with _ h;subst h;exact⟨Nat.lt_succ_self _,isS_lt h2⟩
 exact(unex_ok h).elim
theorem want_no(kw:Bool)(s:List UInt8)(k:Nat):wantP ts kw s k≠ .out:=fun h=>by
 unfold wantP at h
 split at h
 ·
  cases h
 exact unex_out h
theorem nmR_fw(k:Nat):Fw ts.length k (nmR nm ts k):=fun a k1 h=>by
 unfold nmR at h
 split at h
 ·
  rename_i h2
  injection h with _ h;subst h;exact⟨Nat.lt_succ_self _,tk_lt (by omega)⟩
 exact(unex_ok h).elim
theorem nmR_no(k:Nat):nmR nm ts k≠ .out:=fun h=>by
 unfold nmR at h
 split at h
 ·
  cases h
 exact unex_out h
theorem val_fw(k:Nat):Fw ts.length k (valP ts k):=fun a k1 h=>by
 unfold valP at h
 split at h
 ·
  exact quotP_ok h
 exact numP_ok h
theorem val_no(k:Nat):valP ts k≠ .out:=fun h=>by
 unfold valP at h
 split at h
 ·
  exact quotP_out h
 exact numP_out h
theorem span_fw(k:Nat):Fw ts.length k (spanP ts k):=by
 unfold spanP
 split
 ·
  rename_i h
  have hl:=isS_lt h;intro b k2 h2;have:=fw_bind (val_fw (k+1)) (fun lo k1 _=>(fw_bind (want_fw false [44] k1) (fun _ k2 _=>(fw_bind (val_fw k2) (fun hi k3 _=>(fw_bind (want_fw false [93] k3) (fun _ k4 h4=>fq_ok h4)).q)).q)).q) b k2 h2
  omega
 exact fw_bind (val_fw k) (fun v k1 h1=>fq_ok h1)
theorem span_no(k:Nat):spanP ts k≠ .out:=by
 unfold spanP
 split
 ·
  exact no_bind (val_no _) (fun lo k1 _=>no_bind (want_no _ _ _) (fun _ k2 _=>no_bind (val_no _) (fun hi k3 _=>no_bind (want_no _ _ _) (fun _ k4 _=>by simp))))
 exact no_bind (val_no _) (fun v k1 _=>by simp)
theorem decl_fw(k:Nat):Fw ts.length k (declP nm ts k):=
 fw_bind (nmR_fw k) (fun n k1 _=>(fw_bind (want_fw true kIn k1) (fun _ k2 _=>(fw_bind (span_fw k2) (fun r k3 _=>(fw_bind (want_fw false [59] k3) (fun _ k4 h4=>fq_ok h4)).q)).q)).q)
theorem decl_no(k:Nat):declP nm ts k≠ .out:=
 no_bind (nmR_no k) (fun n k1 _=>no_bind (want_no _ _ _) (fun _ k2 _=>no_bind (span_no _) (fun r k3 _=>no_bind (want_no _ _ _) (fun _ k4 _=>by simp))))
theorem sumE_fw(k:Nat):Fw ts.length k (sumE nm ts k):=fun a k1 h=>(forward (nm:=nm) (ts:=ts) (8*ts.length+8)).1 k 0 a k1 h
theorem sumE_no(k:Nat):sumE nm ts k≠ .out:=(enough (nm:=nm) (ts:=ts) (8*ts.length+8)).1 k 0 (by omega)
theorem res_fw:∀(f k:Nat) (acc:List EqP),Fw ts.length k (resP nm ts f k acc)
 | 0,k,acc=>fun a k1 h=>by rw[resP]at h;cases h
 | f+1,k,acc=>by
  rw[resP];refine fw_bind (nmR_fw k) (fun n k1 _=>(fw_bind (want_fw false [61] k1) (fun _ k2 _=>(fw_bind (sumE_fw k2) (fun e k3 h3=>?_)).q)).q)
  split
  ·
   intro b k4 h4;have:=res_fw f (k3+1) _ b k4 h4
   omega
  exact fq_ok h3
theorem res_no:∀(f k:Nat) (acc:List EqP),k≤ts.length→ts.length<f+k→resP nm ts f k acc≠ .out
 | 0,k,acc,hk,hf=>absurd hf (by omega)
 | f+1,k,acc,hk,hf=>by
  rw[resP];refine no_bind (nmR_no k) (fun n k1 h1=>no_bind (want_no _ _ _) (fun _ k2 h2=>no_bind (sumE_no _) (fun e k3 h3=>?_)));have a1:=nmR_fw k n k1 h1;have a2:=want_fw _ _ _ _ _ h2;have a3:=sumE_fw _ _ _ h3
  split
  ·
   rename_i h4
   exact res_no f (k3+1) _ (isS_lt h4) (by omega)
  simp
theorem dir_fw(k:Nat):Fw ts.length k (dirP ts k):=fun a k1 h=>by
 unfold dirP at h
 split at h
 ·
  rename_i h2
  injection h with _ h;subst h;exact⟨Nat.lt_succ_self _,isS_lt h2⟩
 split at h
 ·
  rename_i h2
  injection h with _ h;subst h;exact⟨Nat.lt_succ_self _,isS_lt h2⟩
 exact(unex_ok h).elim
theorem dir_no(k:Nat):dirP ts k≠ .out:=fun h=>by
 unfold dirP at h
 split at h
 ·
  cases h
 split at h
 ·
  cases h
 exact unex_out h
theorem with_fq(k:Nat)(hk:k≤ts.length):Fq ts.length k (withP nm ts k):=by
 unfold withP
 split
 ·
  intro b k1 h;have:=res_fw _ (k+1) _ b k1 h
  omega
 exact fq_ok hk
theorem with_no(k:Nat):withP nm ts k≠ .out:=by
 unfold withP
 split
 ·
  rename_i h
  exact res_no _ _ _ (isS_lt h) (by omega)
 simp
theorem edge_fw(k:Nat):Fw ts.length k (edgeP nm ts k):=
 fw_bind (sumE_fw k) (fun g k1 _=>(fw_bind (dir_fw k1) (fun d k2 _=>(fw_bind (want_fw true kGoto k2) (fun _ k3 _=>(fw_bind (nmR_fw k3) (fun n k4 h4=>fq_bind (with_fq k4 h4) (fun rs k5 _=>(fw_bind (want_fw false [59] k5) (fun _ k6 h6=>fq_ok h6)).q))).q)).q)).q)
theorem edge_no(k:Nat):edgeP nm ts k≠ .out:=
 no_bind (sumE_no k) (fun g k1 _=>no_bind (dir_no _) (fun d k2 _=>no_bind (want_no _ _ _) (fun _ k3 _=>no_bind (nmR_no _) (fun n k4 _=>no_bind (with_no _) (fun rs k5 _=>no_bind (want_no _ _ _) (fun _ k6 _=>by simp))))))
theorem eqn_fw(k:Nat):Fw ts.length k (eqnP nm ts k):=
 fw_bind (nmR_fw k) (fun n k1 _=>(fw_bind (want_fw false [39] k1) (fun _ k2 _=>(fw_bind (want_fw false [61] k2) (fun _ k3 _=>(fw_bind (sumE_fw k3) (fun e k4 _=>(fw_bind (want_fw false [59] k4) (fun _ k5 h5=>fq_ok h5)).q)).q)).q)).q)
theorem eqn_no(k:Nat):eqnP nm ts k≠ .out:=
 no_bind (nmR_no k) (fun n k1 _=>no_bind (want_no _ _ _) (fun _ k2 _=>no_bind (want_no _ _ _) (fun _ k3 _=>no_bind (sumE_no _) (fun e k4 _=>no_bind (want_no _ _ _) (fun _ k5 _=>by simp)))))
theorem body_fw:∀(f k:Nat) (fl:List EqP) (ed:List EdP),Fw ts.length k (bodyP nm ts f k fl ed)
 | 0,k,fl,ed=>fun a k1 h=>by rw[bodyP]at h;cases h
 | f+1,k,fl,ed=>by
  rw[bodyP]
  split
  ·
   rename_i h
   intro b k1 h1;injection h1 with _ h1;subst h1;exact⟨Nat.lt_succ_self _,isS_lt h⟩
  split
  ·
   intro b k1 h1;have:=fw_bind (edge_fw (nm:=nm) (ts:=ts) (k+1)) (fun x k2 _=>(body_fw f k2 fl (ed++[x])).q) b k1 h1
   omega
  exact fw_bind (eqn_fw k) (fun q k2 _=>(body_fw f k2 _ _).q)
theorem body_no:∀(f k:Nat) (fl:List EqP) (ed:List EdP),k≤ts.length→ts.length<f+k→bodyP nm ts f k fl ed≠ .out
 | 0,k,fl,ed,hk,hf=>absurd hf (by omega)
 | f+1,k,fl,ed,hk,hf=>by
  rw[bodyP]
  split
  ·
   simp
  split
  ·
   refine no_bind (edge_no _) (fun x k1 h1=>?_);have a1:=edge_fw _ _ _ h1;exact body_no f k1 _ _ a1.2 (by omega)
  refine no_bind (eqn_no _) (fun x k1 h1=>?_);have a1:=eqn_fw _ _ _ h1;exact body_no f k1 _ _ a1.2 (by omega)
theorem mode_fw(k:Nat):Fw ts.length k (modeP nm ts k):=
 fw_bind (nmR_fw k) (fun n k1 _=>(fw_bind (want_fw false [123] k1) (fun _ k2 _=>(fw_bind (body_fw _ k2 [] []) (fun b k3 h3=>fq_ok h3)).q)).q)
theorem mode_no(k:Nat):modeP nm ts k≠ .out:=
 no_bind (nmR_no k) (fun n k1 _=>no_bind (want_no _ _ _) (fun _ k2 h2=>no_bind (body_no _ k2 [] [] (want_fw _ _ _ _ _ h2).2 (by omega)) (fun b k3 _=>by simp)))
theorem decls_fq:∀(f k:Nat) (st pa:List DcP),k≤ts.length→Fq ts.length k (declsP nm ts f k st pa)
 | 0,k,st,pa,hk=>fun a k1 h=>by rw[declsP]at h;cases h
 | f+1,k,st,pa,hk=>by
  rw[declsP]
  split
  ·
   intro b k1 h1;have:=fw_bind (decl_fw (nm:=nm) (ts:=ts) (k+1)) (fun x k2 h2=>decls_fq f k2 (st++[x]) pa h2) b k1 h1
   omega
  split
  ·
   intro b k1 h1;have:=fw_bind (decl_fw (nm:=nm) (ts:=ts) (k+1)) (fun x k2 h2=>decls_fq f k2 st (pa++[x]) h2) b k1 h1
   omega
  exact fq_ok hk
theorem decls_no:∀(f k:Nat) (st pa:List DcP),k≤ts.length→ts.length<f+k→declsP nm ts f k st pa≠ .out
 | 0,k,st,pa,hk,hf=>absurd hf (by omega)
 | f+1,k,st,pa,hk,hf=>by
  rw[declsP]
  split
  ·
   refine no_bind (decl_no _) (fun x k1 h1=>?_);have a1:=decl_fw _ _ _ h1;exact decls_no f k1 _ _ a1.2 (by omega)
  split
  ·
   refine no_bind (decl_no _) (fun x k1 h1=>?_);have a1:=decl_fw _ _ _ h1;exact decls_no f k1 _ _ a1.2 (by omega)
  simp
theorem modes_no:∀(f k:Nat) (ms:List MdP),k≤ts.length→ts.length<f+k→modesP nm ts f k ms≠ .out
 | 0,k,ms,hk,hf=>absurd hf (by omega)
 | f+1,k,ms,hk,hf=>by
  rw[modesP]
  split
  ·
   refine no_bind (mode_no _) (fun x k1 h1=>?_);have a1:=mode_fw _ _ _ h1;exact modes_no f k1 _ a1.2 (by omega)
  simp
theorem prob_no(k:Nat)(hk:k≤ts.length):probP nm ts k≠ .out:=
 no_bind (decls_no _ k [] [] hk (by omega)) (fun d k1 h1=>no_bind (modes_no _ k1 [] (decls_fq _ k [] [] hk _ _ h1).2 (by omega)) (fun ms k2 _=>no_bind (want_no _ _ _) (fun _ k3 _=>no_bind (val_no _) (fun t k4 _=>no_bind (want_no _ _ _) (fun _ k5 _=>by simp)))))
def Eb{α:Type}(ts:List Tok)(r:PR α):Prop:=∀ln co er,r= .bad ln co er→ErrAt ts ln co er
theorem eb_bind{α β:Type}{r:PR α}{f:α→Nat→PR β}(h1:Eb ts r)(h2:∀a k1,r= .ok a k1→Eb ts (f a k1)):Eb ts (r.bind f):=fun ln co er h=>by
 cases r with
 | ok a k1=>exact h2 a k1 rfl ln co er h
 | bad l c e=>
  injection h with e1 e2 e3;subst e1 e2 e3
  exact h1 _ _ _ rfl
 | out=>cases h
theorem eb_ok{α:Type}(a:α)(k:Nat):Eb ts (.ok a k):=fun ln co er h=>by cases h
theorem eb_unex{α:Type}(k:Nat):Eb ts (unex ts k:PR α):=fun ln co er h=>unex_bad h
theorem want_eb(kw:Bool)(s:List UInt8)(k:Nat):Eb ts (wantP ts kw s k):=by
 unfold wantP
 split
 ·
  exact eb_ok _ _
 exact eb_unex _
theorem nmR_eb(k:Nat):Eb ts (nmR nm ts k):=by
 unfold nmR
 split
 ·
  exact eb_ok _ _
 exact eb_unex _
theorem val_eb(k:Nat):Eb ts (valP ts k):=by
 unfold valP
 split
 ·
  rename_i h
  exact fun ln co er h2=>quotP_bad h h2
 exact fun ln co er h2=>numP_bad h2
theorem span_eb(k:Nat):Eb ts (spanP ts k):=by
 unfold spanP
 split
 ·
  exact eb_bind (val_eb _) (fun lo k1 _=>eb_bind (want_eb _ _ _) (fun _ k2 _=>eb_bind (val_eb _) (fun hi k3 _=>eb_bind (want_eb _ _ _) (fun _ k4 _=>eb_ok _ _))))
 exact eb_bind (val_eb _) (fun v k1 _=>eb_ok _ _)
theorem decl_eb(k:Nat):Eb ts (declP nm ts k):=
 eb_bind (nmR_eb k) (fun n k1 _=>eb_bind (want_eb _ _ _) (fun _ k2 _=>eb_bind (span_eb _) (fun r k3 _=>eb_bind (want_eb _ _ _) (fun _ k4 _=>eb_ok _ _))))
theorem sumE_eb(k:Nat):Eb ts (sumE nm ts k):=fun ln co er h=>(rule_bad (nm:=nm) (ts:=ts) (8*ts.length+8)).1 k 0 ln co er h
theorem res_eb:∀(f k:Nat) (acc:List EqP),Eb ts (resP nm ts f k acc)
 | 0,k,acc=>fun ln co er h=>by rw[resP]at h;cases h
 | f+1,k,acc=>by
  rw[resP];refine eb_bind (nmR_eb k) (fun n k1 _=>eb_bind (want_eb _ _ _) (fun _ k2 _=>eb_bind (sumE_eb _) (fun e k3 _=>?_)))
  split
  ·
   exact res_eb f _ _
  exact eb_ok _ _
theorem dir_eb(k:Nat):Eb ts (dirP ts k):=by
 unfold dirP
 split
 ·
  exact eb_ok _ _
 split
 ·
  exact eb_ok _ _
 exact eb_unex _
theorem with_eb(k:Nat):Eb ts (withP nm ts k):=by
 unfold withP
 split
 ·
  exact res_eb _ _ _
 exact eb_ok _ _
theorem edge_eb(k:Nat):Eb ts (edgeP nm ts k):=
 eb_bind (sumE_eb k) (fun g k1 _=>eb_bind (dir_eb _) (fun d k2 _=>eb_bind (want_eb _ _ _) (fun _ k3 _=>eb_bind (nmR_eb _) (fun n k4 _=>eb_bind (with_eb _) (fun rs k5 _=>eb_bind (want_eb _ _ _) (fun _ k6 _=>eb_ok _ _))))))
theorem eqn_eb(k:Nat):Eb ts (eqnP nm ts k):=
 eb_bind (nmR_eb k) (fun n k1 _=>eb_bind (want_eb _ _ _) (fun _ k2 _=>eb_bind (want_eb _ _ _) (fun _ k3 _=>eb_bind (sumE_eb _) (fun e k4 _=>eb_bind (want_eb _ _ _) (fun _ k5 _=>eb_ok _ _)))))
theorem body_eb:∀(f k:Nat) (fl:List EqP) (ed:List EdP),Eb ts (bodyP nm ts f k fl ed)
 | 0,k,fl,ed=>fun ln co er h=>by rw[bodyP]at h;cases h
 | f+1,k,fl,ed=>by
  rw[bodyP]
  split
  ·
   exact eb_ok _ _
  split
  ·
   exact eb_bind (edge_eb _) (fun x k1 _=>body_eb f k1 _ _)
  exact eb_bind (eqn_eb _) (fun x k1 _=>body_eb f k1 _ _)
theorem mode_eb(k:Nat):Eb ts (modeP nm ts k):=
 eb_bind (nmR_eb k) (fun n k1 _=>eb_bind (want_eb _ _ _) (fun _ k2 _=>eb_bind (body_eb _ _ _ _) (fun b k3 _=>eb_ok _ _)))
theorem decls_eb:∀(f k:Nat) (st pa:List DcP),Eb ts (declsP nm ts f k st pa)
 | 0,k,st,pa=>fun ln co er h=>by rw[declsP]at h;cases h
 | f+1,k,st,pa=>by
  rw[declsP]
  split
  ·
   exact eb_bind (decl_eb _) (fun x k1 _=>decls_eb f k1 _ _)
  split
  ·
   exact eb_bind (decl_eb _) (fun x k1 _=>decls_eb f k1 _ _)
  exact eb_ok _ _
theorem modes_eb:∀(f k:Nat) (ms:List MdP),Eb ts (modesP nm ts f k ms)
 | 0,k,ms=>fun ln co er h=>by rw[modesP]at h;cases h
 | f+1,k,ms=>by
  rw[modesP]
  split
  ·
   exact eb_bind (mode_eb _) (fun x k1 _=>modes_eb f k1 _)
  exact eb_ok _ _
theorem prob_eb(k:Nat):Eb ts (probP nm ts k):=
 eb_bind (decls_eb _ _ _ _) (fun d k1 _=>eb_bind (modes_eb _ _ _) (fun ms k2 _=>eb_bind (want_eb _ _ _) (fun _ k3 _=>eb_bind (val_eb _) (fun t k4 _=>eb_bind (want_eb _ _ _) (fun _ k5 _=>eb_ok _ _)))))
end
