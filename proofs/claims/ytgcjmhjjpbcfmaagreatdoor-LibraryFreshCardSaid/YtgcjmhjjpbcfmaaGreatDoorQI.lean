import Derived.Test.YtgcjmhjjpbcfmaaGreatDoorQH
set_option linter.unusedSimpArgs false
set_option linter.unusedVariables false
open List renaming setIfInBounds_toArray → Lj,set_cons_zero → Lk,set_cons_succ → Lq,getElem_toArray → Ly,getElem_cons_zero → Lz,getElem_cons_succ → Lv
set_option maxHeartbeats 4000000
set_option maxRecDepth 100000
namespace Go.Proofs.YtgcjmhjjpbcfmaaGreatDoor
open Go.RowKit Go.Fl Go.Fl.Lx Go.Fl.Nm Go.Fl.Fm Go.Fl.Rt Go.Fl.Pa
structure TsAt (w:World) (A:Option Addr) (len cap:Nat) (ts:List Tok):Prop where
  hl:ts.length=len
  hc:len≤cap
  hm:cap≤maxLen
  hs:len≤100000
  hr:Rd w 4 A len (toksCells ts)
  ht:∀t∈ts,t.text.length≤100∧t.kind≤3∧t.line≤100000∧t.col≤100000
theorem TsAt.belowW{w w':World}{A:Option Addr}{len cap:Nat}{ts:List Tok}(h:TsAt w A len cap ts)(hb:Below w.heap.size w w'):TsAt w' A len cap ts:=⟨h.hl,h.hc,h.hm,h.hs,h.hr.below hb,h.ht⟩
theorem TsAt.b9{w w':World}{A:Option Addr}{len cap:Nat}{ts:List Tok}(h:TsAt w A len cap ts)(hb:Go.RowKit.Hid (Go.RowKit.Below w.heap.size w w')):Go.RowKit.Hid (TsAt w' A len cap ts):=hI (TsAt.belowW h hb.o)
@[reducible] def tokV (t:Tok):Value:= .agg #[.int .i64 t.kind,.string ⟨t.text.toArray⟩,.int .i64 t.line,.int .i64 t.col]
def Ps(g:Nat)(A:Option Addr)(len cap k m:Nat)(w:World):Prop:=Blk w g 124 #[.l A len cap,.i (k:Nat),.i (m:Nat)]
theorem Ps.belowW{g:Nat}{A:Option Addr}{len cap k m:Nat}{w w':World}(h:Ps g A len cap k m w)(hb:Below w.heap.size w w'):Ps g A len cap k m w':=Blk.belowW h hb
theorem Ps.b9{g:Nat}{A:Option Addr}{len cap k m:Nat}{w w':World}(h:Ps g A len cap k m w)(hb:Go.RowKit.Hid (Go.RowKit.Below w.heap.size w w')):Go.RowKit.Hid (Ps g A len cap k m w'):=hI (Ps.belowW h hb.o)
theorem tk_at{ts:List Tok}{k:Nat}(h:k<ts.length):ts[k]? =some (tk ts k):=by
 unfold tk;rw[List.getD_eq_getElem?_getD,List.getElem?_eq_getElem h]
 rfl
theorem tk_end{ts:List Tok}{k:Nat}(h:ts.length≤k):tk ts k=⟨0,[],0,0⟩:=by
 unfold tk;rw[List.getD_eq_getElem?_getD,List.getElem?_eq_none h]
 rfl
theorem TsAt.tk{w:World}{A:Option Addr}{len cap:Nat}{ts:List Tok}(h:TsAt w A len cap ts)(k:Nat):(tk ts k).text.length≤100∧(tk ts k).kind≤3∧(tk ts k).line≤100000∧(tk ts k).col≤100000:=by
 by_cases hk:k<ts.length
 ·
  exact h.ht _ (List.mem_of_getElem? (tk_at hk))
 rw[tk_end (by omega)];exact⟨Nat.zero_le _,Nat.zero_le _,Nat.zero_le _,Nat.zero_le _⟩
theorem TsAt.at_{w:World}{A:Option Addr}{len cap:Nat}{ts:List Tok}(h:TsAt w A len cap ts)(k:Nat)(hk:k<len):
 ∃b o,A=some ⟨b,o,none⟩∧Ct w b (o+k*4) (tokCells (Pa.tk ts k)):=by
 obtain⟨b,o,hA,hb,hcell⟩:=h.hr.at_ (by omega);have ht:=tk_at (ts:=ts) (k:=k) (by rw[h.hl];exact hk);refine⟨b,o,hA,hb,fun j u hu=>?_⟩;have hj:j<4:=(List.getElem?_eq_some_iff.1 hu).1;have:=hcell _ _ ((toks_at ts k _ ht j hj).trans hu)
 rwa [←Nat.add_assoc]at this
@[reducible] def pan (ln co er:Int):Ending:= .panicked [{v:= .iface 121 (.agg #[.int .i64 ln,.int .i64 co,.int .i64 er]),recovered:=false}]
theorem tokF0(t:Tok)(w:World):(Instr.field 165 (tokV t) 0).run Tryz.prog w= .ok (.i t.kind) w:=by kernel_rfl
theorem tokF1(t:Tok)(w:World):(Instr.field 165 (tokV t) 1).run Tryz.prog w= .ok (.string ⟨t.text.toArray⟩) w:=by kernel_rfl
theorem tokF2(t:Tok)(w:World):(Instr.field 165 (tokV t) 2).run Tryz.prog w= .ok (.agg #[.i t.line,.i t.col]) w:=by kernel_rfl
theorem beq_txt(l:List UInt8)(s:ByteArray):((⟨l.toArray⟩:ByteArray)==s)=(l==s.data.toList):=by
 cases s with
 | mk d=>
  show((l.toArray:Array UInt8)==d)=(l==d.toList)
  cases d with
  | mk e=>simp
theorem pToken(w0 w:World)(g k m:Nat)(A:Option Addr)(len cap:Nat)(ts:List Tok)(hT:TsAt w0 A len cap ts)(hw:Below w0.heap.size w0 w)(hg:w0.heap.size≤g)(hP:Ps g A len cap k m w)(hk:k≤150000)(n:Nat)(hn:n≤10):Calls Tryz.prog 125 #[.p g,.i (n:Nat)] w (RetB (tokV (tk ts (k+n))) w):=by
 have HT:=hI hT;have HW:=hI hw;have F:=hI hP;have ar:=hT.hs;have ad:=hI hT.hl;unfold Ps at F;clear hT hw hP;have e1:IntKind.i64.wrap ((k:Int)+(n:Int))=(k:Int)+(n:Int):=(by rw[IntKind.wrap_i64];omega);have e2:((k:Int)+(n:Int)).toNat=k+n:=(by omega);have ae:=F.o.lt
 by_cases hlt:k+n<len
 ·
  obtain⟨b,o,hA,Q⟩:=(HT.o.belowW HW.o).at_ (k+n) hlt;subst hA;have H:=hI Q;obtain⟨T,R⟩:=eX (tk ts (k+n));rw[←R]at H ⊢;clear Q R;have ag:=H.o.lt;have aw:0≤(k:Int)+(n:Int)∧(k:Int)+(n:Int)<(len:Int):=(by omega);have d1:decide ((len:Int)≤(k:Int)+(n:Int))=false:=dF;have d2:decide (len≤k+n)=false:=dF
  go_in
  go_upto_region 1 with(fail);obtain⟨d,i⟩:=eX (w.alloc (Obj.cells #[.i 0,.string ⟨#[]⟩,.i 0,.i 0] 165));have p:=hI (show Lo w d by rw[i];exact below_box _ _);have I:=hI (show Blk d w.heap.size 165 #[.i 0,.string ⟨#[]⟩,.i 0,.i 0]by rw[i];exact Blk.new _ _ _);rw[←i];clear i;have a:=hI (below_dr d);have l:=I.o.b9 a;have q:=hI ((F.o.belowW p.o).belowW a.o);have s:=p.o.b9 a;have U:=hI ((H.o.belowW p.o).belowW a.o)
  refine wp_region_held_drew (S:=fun w'=>cz3 w' g (.l (some ⟨b,o,none⟩) len cap) (.i (k:Nat)) (.i (m:Nat))) (by kernel_rfl) q.o.cz3 fun hHeld=>?_
  obtain⟨G,j⟩:=eX (d.drew);rw[←j]at a l q s U hHeld ⊢;clear j;refine tkW 0 ?_;refine tkW 1 ?_;refine tkW 2 ?_;refine tkW 3 ?_;refine tkW 4 ?_;refine tkW 5 ?_;refine tkW 6 ?_;refine tkW 7 ?_;refine tkW 8 ?_;refine tkW 9 ?_;refine tkW 10 ?_;refine tkW 11 ?_;refine wpAnyH_done (by kernel_rfl) ?_ _;go_wp2_with fail;have u:=hI (below_dr G);have x:=l.o.b9 u;have J:=q.o.b9 u;have V:=s.o.b9 u;have r:=U.o.b9 u
  refine wp_region_held_drew (S:=fun w'=>cz3 w' g (.l (some ⟨b,o,none⟩) len cap) (.i (k:Nat)) (.i (m:Nat))∧w'.cell? ⟨b,o+(k+n)*4,none⟩=some (.i T.kind)∧w'.cell? ⟨b,o+(k+n)*4+1,none⟩=some (.string ⟨T.text.toArray⟩)∧w'.cell? ⟨b,o+(k+n)*4+2,none⟩=some (.i T.line)∧w'.cell? ⟨b,o+(k+n)*4+3,none⟩=some (.i T.col)) (by kernel_rfl) ⟨J.o.cz3,r.o.c 0 _ rfl,r.o.c 1 _ rfl,r.o.c 2 _ rfl,r.o.c 3 _ rfl⟩ fun hHeld=>?_
  obtain⟨aj,j⟩:=eX (G.drew);rw[←j]at u x J V r hHeld ⊢;clear j;refine tkW 0 ?_;refine tkW 1 ?_;refine tkW 2 ?_;refine tkW 3 ?_;refine tkW 4 ?_;refine tkW 5 ?_;refine tkW 6 ?_;refine tkW 7 ?_;refine tkW 8 ?_;refine tkW 9 ?_;refine tkW 10 ?_;refine tkW 11 ?_
  refine wr1 12 fun K hK=>?_
  have ps:=x.o.cell;have fs:=x.o.frozen;go_simp;rw[pst4 x.o];clear ps fs;obtain⟨y,L⟩:=eX (#[.i T.kind,.string ⟨T.text.toArray⟩,.i T.line,.i T.col]:Array Value);have W:=hI (V.o.put (g:=w.heap.size) (Nat.le_refl _) 165 y);have X:=hI (J.o.far (t':=165) (show g≠w.heap.size from Nat.ne_of_lt ae) y);have z:=hI (r.o.far (show b≠w.heap.size from Nat.ne_of_lt ag) 165 y);have M:=hI (x.o.put y);obtain⟨ax,Y⟩:=eX (putB aj (w.heap.size) 165 y);rw[←L];rw[←Y]at W X z M ⊢;clear Y hHeld;rw[L]at M;clear L
  refine hK.out _ _ ⟨X.o.cz3,z.o.c 0 _ rfl,z.o.c 1 _ rfl,z.o.c 2 _ rfl,z.o.c 3 _ rfl⟩ fun hHeld=>?_
  clear hK K
  try simp only[Lj,Lk,Lq]
  refine wpAnyH_done (by kernel_rfl) ?_ _;go_wp2;obtain⟨B,C,D,E⟩:=M.o.all4';refine bodyPost_ret (v:=tokV T) (by simp[results,Tryz.results125,go_sem,B,C,D,E]) rfl ?_;exact⟨rfl,W⟩
 have am:=hI (show tk ts (k+n)=⟨0,[],0,0⟩from tk_end (by rw[ad.o];omega));have d1:decide ((len:Int)≤(k:Int)+(n:Int))=true:=dT;have d2:decide (len≤k+n)=true:=dT
 go_in
 go_upto_region 1 with(fail);obtain⟨d,i⟩:=eX (w.alloc (Obj.cells #[.i 0,.string ⟨#[]⟩,.i 0,.i 0] 165));have p:=hI (show Lo w d by rw[i];exact below_box _ _);have I:=hI (show Blk d w.heap.size 165 #[.i 0,.string ⟨#[]⟩,.i 0,.i 0]by rw[i];exact Blk.new _ _ _);rw[←i];clear i;have a:=hI (below_dr d);have l:=I.o.b9 a;have q:=hI ((F.o.belowW p.o).belowW a.o);have s:=p.o.b9 a
 refine wp_region_held_drew (S:=fun w'=>cz3 w' g (.l A len cap) (.i (k:Nat)) (.i (m:Nat))) (by kernel_rfl) q.o.cz3 fun hHeld=>?_
 obtain⟨G,j⟩:=eX (d.drew);rw[←j]at a l q s hHeld ⊢;clear j;refine tkW 0 ?_;refine tkW 1 ?_;refine tkW 2 ?_;refine tkW 3 ?_;refine tkW 4 ?_;refine tkW 5 ?_;refine tkW 6 ?_;refine tkW 7 ?_;refine tkW 8 ?_;refine tkW 9 ?_;refine tkW 10 ?_;refine tkW 11 ?_;refine wpAnyH_done (by kernel_rfl) ?_ _;obtain⟨B,f0,C,f1,D,f2,E,f3⟩:=l.o.all4;go_wp2;rw[pst4 l.o];obtain⟨N,O⟩:=eX (#[.i 0,.string ⟨#[]⟩,.i 0,.i 0]:Array Value);have P:=hI (l.o.put N);have Z:=hI (s.o.put (g:=w.heap.size) (Nat.le_refl _) 165 N);obtain⟨wz,hz⟩:=eX (putB G w.heap.size 165 N);rw[←O];rw[←hz]at P Z ⊢;clear hz B f0 C f1 D f2 E f3;rw[O]at P;clear O;obtain⟨B,C,D,E⟩:=P.o.all4';rw[am.o];refine bodyPost_ret (v:= .agg #[.i 0,.string ⟨#[]⟩,.i 0,.i 0]) (by simp[results,Tryz.results125,go_sem,B,C,D,E]) rfl ?_;exact⟨rfl,Z⟩
theorem pFail(w0 w:World)(g k m:Nat)(A:Option Addr)(len cap:Nat)(ts:List Tok)(hT:TsAt w0 A len cap ts)(hw:Below w0.heap.size w0 w)(hg:w0.heap.size≤g)(hP:Ps g A len cap k m w)(hk:k≤150000)(er:Int):Calls Tryz.prog 93 #[.p g,.i er] w fun e w'=>e=pan (tk ts k).line (tk ts k).col er∧Hid (Below w.heap.size w w'):=by
 have KT:=hI (pToken w0 w g k m A len cap ts hT hw hg hP hk 0 (by omega));rw[Nat.add_zero]at KT;obtain⟨T,hTT⟩:=eX (tk ts k);rw[←hTT]at KT ⊢;clear hT hw hP hTT
 go_in
 go_wp2_with fail;refine KT.o.mono ?_;rintro e w2 ⟨rfl,HB⟩;have hF:=tokF2 T;go_wp2_with fail;exact⟨rfl,rfl,HB⟩
def panU(ts:List Tok)(k:Nat):Ending:=if ts.length≤k then pan 0 0 4 else pan (tk ts k).line (tk ts k).col 3
theorem pUnexp(w0 w:World)(g k m:Nat)(A:Option Addr)(len cap:Nat)(ts:List Tok)(hT:TsAt w0 A len cap ts)(hw:Below w0.heap.size w0 w)(hg:w0.heap.size≤g)(hP:Ps g A len cap k m w)(hk:k≤150000):Calls Tryz.prog 52 #[.p g] w fun e w'=>e=panU ts k∧Hid (Below w.heap.size w w'):=by
 have l:=hI hw;have i:=hI hP;have u:=hT.hs;have n:=hI hT.hl;have o:=hI (show Lo w w from Below.refl _ _);have p:=hI (fun(w1:World) (hb:Below w.heap.size w w1)=>pFail w0 w1 g k m A len cap ts hT (l.o.trans (hb.mono l.o.size)) hg (i.o.belowW hb) hk 3);unfold Ps at i;clear hT hw hP
 by_cases hlt:k<len
 ·
  have j:=hI (show panU ts k=pan (tk ts k).line (tk ts k).col 3 by unfold panU;rw[if_neg (by rw[n.o];omega)]);have q:decide ((len:Int)≤(k:Int))=false:=dF;have r:decide (len≤k)=false:=dF
  go_in
  go_wp2_with fail;have b:=hI (below_dr w);have a:=i.o.b9 b;have c:=o.o.b9 b;refine wp_region_held_drew (S:=fun w'=>w'.cell? ⟨g,0,none⟩=some (.l A len cap)∧w'.cell? ⟨g,1,none⟩=some (.i (k:Nat))∧w'.cell? ⟨g,2,none⟩=some (.i (m:Nat))) (by kernel_rfl) ?_ (fun hHeld=>?_)
  case refine_1=>exact⟨a.o.cell 0,a.o.cell 1,a.o.cell 2⟩
  obtain⟨s,d⟩:=eX (w.drew);rw[←d]at b a c hHeld ⊢;clear d;refine tkW 0 ?_;refine tkW 1 ?_;refine tkW 2 ?_;refine tkW 3 ?_;refine tkW 4 ?_;refine tkW 5 ?_;refine tkW 6 ?_;refine tkW 7 ?_;refine tkW 8 ?_;refine tkW 9 ?_;refine wpAnyH_done (by kernel_rfl) ?_ _;go_wp2_with fail;refine(p.o _ c.o).mono ?_;rintro e w3 ⟨rfl,t⟩;go_wp2_with fail;rw[j.o];exact⟨rfl,rfl,c.o.b9 t⟩
 have j:=hI (show panU ts k=pan 0 0 4 by unfold panU;rw[if_pos (by rw[n.o];omega)]);have q:decide ((len:Int)≤(k:Int))=true:=dT;have r:decide (len≤k)=true:=dT
 go_in
 go_wp2_with fail;have b:=hI (below_dr w);have a:=i.o.b9 b;have c:=o.o.b9 b;refine wp_region_held_drew (S:=fun w'=>w'.cell? ⟨g,0,none⟩=some (.l A len cap)∧w'.cell? ⟨g,1,none⟩=some (.i (k:Nat))∧w'.cell? ⟨g,2,none⟩=some (.i (m:Nat))) (by kernel_rfl) ?_ (fun hHeld=>?_)
 case refine_1=>exact⟨a.o.cell 0,a.o.cell 1,a.o.cell 2⟩
 obtain⟨s,d⟩:=eX (w.drew);rw[←d]at b a c hHeld ⊢;clear d;refine tkW 0 ?_;refine tkW 1 ?_;refine tkW 2 ?_;refine tkW 3 ?_;refine tkW 4 ?_;refine tkW 5 ?_;refine tkW 6 ?_;refine tkW 7 ?_;refine tkW 8 ?_;refine tkW 9 ?_;refine wpAnyH_done (by kernel_rfl) ?_ _;go_wp2_with fail;rw[j.o];exact⟨rfl,rfl,c⟩
structure Env (w0:World) (g:Nat) (A:Option Addr) (len cap:Nat) (ts:List Tok) (k m:Nat) (w:World):Prop where
  t:TsAt w0 A len cap ts
  b:Below w0.heap.size w0 w
  lo:w0.heap.size≤g
  p:Ps g A len cap k m w
  kk:k≤150000
section
variable {w0 w:World} {g:Nat} {A:Option Addr} {len cap:Nat} {ts:List Tok} {k m:Nat}
theorem Env.belowW(h:Env w0 g A len cap ts k m w){w':World}(hb:Below w.heap.size w w'):Env w0 g A len cap ts k m w':=⟨h.t,h.b.trans (hb.mono h.b.size),h.lo,h.p.belowW hb,h.kk⟩
theorem Env.b9(h:Env w0 g A len cap ts k m w){w':World}(hb:Go.RowKit.Hid (Go.RowKit.Below w.heap.size w w')):Go.RowKit.Hid (Env w0 g A len cap ts k m w'):=hI (Env.belowW h hb.o)
theorem Env.gl(h:Env w0 g A len cap ts k m w):g<w.heap.size:=Blk.lt h.p
theorem Env.put(h:Env w0 g A len cap ts k m w)(k' m':Nat)(hk:k'≤150000):Env w0 g A len cap ts k' m' (putB w g 124 #[.l A len cap,.i (k':Nat),.i (m':Nat)]):=
 ⟨h.t,h.b.trans (putB_below w g _ _ h.lo),h.lo,Blk.put h.p _,hk⟩
theorem Env.moved(h:Env w0 g A len cap ts k m w){w':World}(hg:w.grownBy w' (some g)){k' m':Nat}(hp:Ps g A len cap k' m' w')(hk:k'≤150000):Env w0 g A len cap ts k' m' w':=
 ⟨h.t,⟨hg.os.trans h.b.os,hg.tape.trans h.b.tape,hg.output.trans h.b.output,Nat.le_trans h.b.size hg.size,fun j hj=>(hg.block j (Nat.lt_of_lt_of_le hj h.b.size) (fun e=>by have:=h.lo;injection e with e;omega)).trans (h.b.block j hj)⟩,h.lo,hp,hk⟩
theorem Env.tok(h:Env w0 g A len cap ts k m w)(n:Nat)(hn:n≤10):Calls Tryz.prog 125 #[.p g,.i (n:Nat)] w (RetB (tokV (tk ts (k+n))) w):=pToken w0 w g k m A len cap ts h.t h.b h.lo h.p h.kk n hn
theorem Env.unx(h:Env w0 g A len cap ts k m w):Calls Tryz.prog 52 #[.p g] w fun e w'=>e=panU ts k∧Hid (Below w.heap.size w w'):=pUnexp w0 w g k m A len cap ts h.t h.b h.lo h.p h.kk
theorem Env.fail(h:Env w0 g A len cap ts k m w)(er:Int):Calls Tryz.prog 93 #[.p g,.i er] w fun e w'=>e=pan (tk ts k).line (tk ts k).col er∧Hid (Below w.heap.size w w'):=pFail w0 w g k m A len cap ts h.t h.b h.lo h.p h.kk er
theorem grown_of{w w':World}(r:Option Nat)(h:Below w.heap.size w w'):w.grownBy w' r:=⟨h.os,h.tape,h.output,h.size,fun k hk _=>h.block k hk⟩
theorem grown_tr{a b c:World}{r:Option Nat}(h:a.grownBy b r)(h2:b.grownBy c r):a.grownBy c r:=
 ⟨h2.os.trans h.os,h2.tape.trans h.tape,h2.output.trans h.output,Nat.le_trans h.size h2.size,fun k hk hr=>(h2.block k (Nat.lt_of_lt_of_le hk h.size) hr).trans (h.block k hk hr)⟩
end
theorem pIs{w0 w:World}{g:Nat}{A:Option Addr}{len cap:Nat}{ts:List Tok}{k m:Nat}(h:Env w0 g A len cap ts k m w)(n:Nat)(hn:n≤10)(s:ByteArray):Calls Tryz.prog 94 #[.p g,.i (n:Nat),.string s] w (RetB (.b (isS (kwP s.data.toList) ts (k+n) s.data.toList)) w):=by
 have o:=hI (h.tok n hn);obtain⟨T,j⟩:=eX (tk ts (k+n))
 obtain⟨b,i⟩:∃b,(T.text==s.data.toList)=b:=⟨_,rfl⟩
 obtain⟨c,hc⟩:∃b,((T.kind:Int)==3)=b:=⟨_,rfl⟩
 obtain⟨d,t⟩:∃b,((T.kind:Int)==1)=b:=⟨_,rfl⟩
 obtain⟨e,l⟩:∃b,kwP s.data.toList=b:=⟨_,rfl⟩
 have p:(T.kind==3)=c:=(by rw[←hc,Bool.eq_iff_iff,beq_iff_eq,beq_iff_eq];omega);have q:(T.kind==1)=d:=(by rw[←t,Bool.eq_iff_iff,beq_iff_eq,beq_iff_eq];omega);have r:=hI (show isS (kwP s.data.toList) ts (k+n) s.data.toList=(b&&(c||(d&&e)))by unfold isS;rw[←j,i,p,q,l]);rw[r.o];rw[←j]at o;have u:=hI l;have v:((⟨T.text.toArray⟩:ByteArray)==s)=b:=(by rw[beq_txt,i]);have x:(T.text==s.toList)=b:=(by rw[ByteArray.toList_eq,i]);clear h j i l p q r
 go_in
 go_wp2_with fail;refine o.o.mono ?_;rintro e w2 ⟨rfl,a⟩
 cases b with
 | false=>
  go_wp2;go_ret
  exact⟨rfl,hI (a.o.trans ((below_box _ _).mono a.o.size))⟩
 | true=>
  cases c with
  | true=>
   go_wp2;go_ret
   exact⟨rfl,hI (a.o.trans ((below_box _ _).mono a.o.size))⟩
  | false=>
   cases d with
   | false=>
    go_wp2;go_ret
    exact⟨rfl,hI (a.o.trans ((below_box _ _).mono a.o.size))⟩
   | true=>
    go_wp2_with fail;refine(keyword_any s _).mono ?_;rw[u.o];rintro e w3 ⟨rfl,rfl⟩;go_wp2;go_ret;exact⟨rfl,hI (a.o.trans ((below_box _ _).mono a.o.size))⟩
theorem pSign{w0 w:World}{g:Nat}{A:Option Addr}{len cap:Nat}{ts:List Tok}{k m:Nat}(h:Env w0 g A len cap ts k m w):Calls Tryz.prog 127 #[.p g] w (RetB (.i (signP ts k:Nat)) w):=by
 have KI:=hI (pIs h 0 (by omega) ⟨#[45]⟩);rw[Nat.add_zero,show kwP (⟨#[45]⟩:ByteArray).data.toList=false by decide,show(⟨#[45]⟩:ByteArray).data.toList=[45]from rfl]at KI
 obtain⟨b,hb⟩:∃b,isS false ts k [45]=b:=⟨_,rfl⟩
 have HE:=hI (show signP ts k=if b=true then 1 else 0 by unfold signP;rw[hb]);rw[hb]at KI;clear h hb
 cases b with
 | false=>
  go_in
  go_wp2_with fail;refine KI.o.mono ?_;rintro e w2 ⟨rfl,HB⟩;go_wp2;go_ret;rw[HE.o]
  exact⟨rfl,HB⟩
 | true=>
  go_in
  go_wp2_with fail;refine KI.o.mono ?_;rintro e w2 ⟨rfl,HB⟩;go_wp2;go_ret;rw[HE.o];exact⟨rfl,HB⟩
theorem pInteger{w0 w:World}{g:Nat}{A:Option Addr}{len cap:Nat}{ts:List Tok}{k m:Nat}(h:Env w0 g A len cap ts k m w)(n:Nat)(hn:n≤10):Calls Tryz.prog 128 #[.p g,.i (n:Nat)] w (RetB (.b (integerP ts (k+n))) w):=by
 have KT:=hI (h.tok n hn);obtain⟨T,hTT⟩:=eX (tk ts (k+n))
 obtain⟨c,hc⟩:∃b,((T.kind:Int)==2)=b:=⟨_,rfl⟩
 obtain⟨d,hd⟩:∃b,T.text.contains 46=b:=⟨_,rfl⟩
 have hc':(T.kind==2)=c:=(by rw[←hc,Bool.eq_iff_iff,beq_iff_eq,beq_iff_eq];omega);have HE:=hI (show integerP ts (k+n)=(c&& !d)by unfold integerP;rw[←hTT,hc',hd]);rw[HE.o];rw[←hTT]at KT;have HD:=hI (show decide (0≤Lib.indexByte (⟨T.text.toArray⟩:ByteArray).data.toList 46)=d by rw[←hd];exact(Lib.contains_iff_indexByte _ 46).symm);clear h hTT hc' hd HE
 go_in
 go_wp2_with fail;refine KT.o.mono ?_;rintro e w2 ⟨rfl,HB⟩
 cases c with
 | false=>
  go_wp2;go_ret
  exact⟨rfl,hI (HB.o.trans ((below_box _ _).mono HB.o.size))⟩
 | true=>
  go_wp2_with fail;refine(Tryz.strings_Contains_one ⟨T.text.toArray⟩ 46 _).mono ?_;rw[HD.o];rintro e w3 ⟨rfl,rfl⟩;go_wp2;go_ret;exact⟨rfl,hI (HB.o.trans ((below_box _ _).mono HB.o.size))⟩
def AccP(w0:World)(g:Nat)(A:Option Addr)(len cap:Nat)(ts:List Tok)(k m:Nat)(b:Bool)(w:World)(e:Ending)(w':World):Prop:=
  e= .returned (.b b)∧Hid (w.grownBy w' (some g))∧Hid (Env w0 g A len cap ts (if b=true then k+1 else k) m w')
theorem pAccept{w0 w:World}{g:Nat}{A:Option Addr}{len cap:Nat}{ts:List Tok}{k m:Nat}(h:Env w0 g A len cap ts k m w)(hk:k≤140000)(s:ByteArray):Calls Tryz.prog 53 #[.p g,.string s] w (AccP w0 g A len cap ts k m (isS (kwP s.data.toList) ts k s.data.toList) w):=by
 have c:=hI (pIs h 0 (by omega) s);rw[Nat.add_zero]at c;have i:=hI h
 obtain⟨b,j⟩:∃b,isS (kwP s.data.toList) ts k s.data.toList=b:=⟨_,rfl⟩
 rw[j]at c ⊢;clear h j
 cases b with
 | false=>
  go_in
  go_wp2_with fail;refine c.o.mono ?_;rintro e w2 ⟨rfl,a⟩;go_wp2;go_ret
  exact⟨rfl,hI (grown_of _ a.o),i.o.b9 a⟩
 | true=>
  have o:IntKind.i64.wrap ((k:Int)+1)=(k:Int)+1:=by rw[IntKind.wrap_i64];omega
  go_in
  go_wp2_with fail;refine c.o.mono ?_;rintro e w2 ⟨rfl,a⟩;have l:=i.o.b9 a;have d:=hI (show Blk w2 g 124 #[.l A len cap,.i (k:Nat),.i (m:Nat)]from l.o.p);have p:=d.o.cell;have q:w2.frozen? ⟨g,1,none⟩=false:=d.o.frozen 1;go_wp2_with fail;rw[d.o.setCell_eq];have n:=hI (l.o.put (k+1) m (by omega));go_ret;exact⟨rfl,hI (grown_tr (grown_of _ a.o) (putB_grown w2 g _ _)),n⟩
theorem pWantY{w0 w:World}{g:Nat}{A:Option Addr}{len cap:Nat}{ts:List Tok}{k m:Nat}(h:Env w0 g A len cap ts k m w)(hk:k≤140000)(s:ByteArray)(hs:isS (kwP s.data.toList) ts k s.data.toList=true):Calls Tryz.prog 56 #[.p g,.string s] w fun e w'=>e= .returned (.tuple #[])∧Hid (w.grownBy w' (some g))∧Hid (Env w0 g A len cap ts (k+1) m w'):=by
 have KA:=hI (pAccept h hk s);rw[hs]at KA;clear h hs
 go_in
 go_wp2_with fail;refine KA.o.mono ?_;rintro e w2 ⟨rfl,HG,HV⟩;go_wp2_with fail;refine bodyPost_end (v:= .tuple #[]) (by simp[results,Tryz.results56,go_sem]) rfl ?_;exact⟨rfl,HG,HV⟩
theorem pWantN{w0 w:World}{g:Nat}{A:Option Addr}{len cap:Nat}{ts:List Tok}{k m:Nat}(h:Env w0 g A len cap ts k m w)(hk:k≤140000)(s:ByteArray)(hs:isS (kwP s.data.toList) ts k s.data.toList=false):Calls Tryz.prog 56 #[.p g,.string s] w fun e w'=>e=panU ts k∧Hid (w.grownBy w' (some g)):=by
 have KA:=hI (pAccept h hk s);rw[hs]at KA;clear h hs
 go_in
 go_wp2_with fail;refine KA.o.mono ?_;rintro e w2 ⟨rfl,HG,HV⟩;go_wp2_with fail;refine HV.o.unx.mono ?_;rintro e w3 ⟨he,HB⟩
 obtain⟨c,hc⟩:∃c,panU ts k= .panicked c:=by unfold panU;split<;>exact⟨_,rfl⟩
 have HC:=hI hc;simp only[Bool.false_eq_true,if_false]at he;rw[hc]at he;subst he;clear hc;go_wp2_with fail;rw[HC.o];exact⟨rfl,rfl,hI (grown_tr HG.o (grown_of _ HB.o))⟩
end Go.Proofs.YtgcjmhjjpbcfmaaGreatDoor
namespace Go.Fl.Pa
open Go.Fl.Lx Go.Fl.Fm Go.Fl.Rt
theorem tk_lt{ts:List Tok}{k:Nat}(h:(tk ts k).kind≠0):k<ts.length:=by
 apply Decidable.byContradiction
 intro hk
 apply h
 unfold tk;rw[List.getD_eq_getElem?_getD,List.getElem?_eq_none (by omega)]
 rfl
theorem isS_kind{b:Bool}{ts:List Tok}{k:Nat}{s:List UInt8}(h:isS b ts k s=true):(tk ts k).text=s∧((tk ts k).kind=3∨(tk ts k).kind=1):=by
 unfold isS at h;simp only[Bool.and_eq_true,Bool.or_eq_true,beq_iff_eq]at h;exact⟨h.1,h.2.elim .inl (fun x=> .inr x.1)⟩
theorem isS_lt{b:Bool}{ts:List Tok}{k:Nat}{s:List UInt8}(h:isS b ts k s=true):k<ts.length:=by
 apply tk_lt
 have:=(isS_kind h).2
 omega
theorem signP_le(ts:List Tok)(k:Nat):signP ts k≤1:=by unfold signP;split<;>omega
theorem unex_ok{α:Type}{ts:List Tok}{k k1:Nat}{a:α}(h:unex ts k= .ok a k1):False:=by
 unfold unex failP at h
 split at h<;>cases h
theorem fail_ok{α:Type}{ts:List Tok}{k e k1:Nat}{a:α}(h:failP ts k e= .ok a k1):False:=by
 unfold failP at h
 cases h
theorem unex_out{α:Type}{ts:List Tok}{k:Nat}(h:(unex ts k:PR α)= .out):False:=by
 unfold unex failP at h
 split at h<;>cases h
theorem fail_out{α:Type}{ts:List Tok}{k e:Nat}(h:(failP ts k e:PR α)= .out):False:=by
 unfold failP at h
 cases h
theorem numP_ok{ts:List Tok}{k k1:Nat}{r:Int×Int}(h:numP ts k= .ok r k1):k<k1∧k1≤ts.length:=by
 unfold numP at h
 split at h
 ·
  exact(unex_ok h).elim
 rename_i h2
 split at h
 ·
  exact(fail_ok h).elim
 injection h with h3 h4;have:=tk_lt (ts:=ts) (k:=k+signP ts k) (by omega)
 omega
theorem numP_out{ts:List Tok}{k:Nat}(h:numP ts k= .out):False:=by
 unfold numP at h
 split at h
 ·
  exact unex_out h
 split at h
 ·
  exact fail_out h
 cases h
theorem read1_nil:(read1 []).2.2=3:=by decide+kernel
theorem tk_nil{ts:List Tok}{k:Nat}(h:ts.length≤k):(tk ts k).text=[]:=by
 unfold tk;rw[List.getD_eq_getElem?_getD,List.getElem?_eq_none h]
 rfl
theorem quotP_ok{ts:List Tok}{k k1:Nat}{r:Int×Int}(h:quotP ts k= .ok r k1):k<k1∧k1≤ts.length:=by
 unfold quotP at h
 cases hn:numP ts k with
 | ok a k2=>
  rw[hn]at h;have h1:=numP_ok hn;simp only[PR.bind]at h
  split at h
  ·
   exact(unex_ok h).elim
  split at h
  ·
   exact(fail_ok h).elim
  rename_i h3
  split at h
  ·
   exact(fail_ok h).elim
  injection h with h4 h5
  have:k2+1<ts.length:=by
   apply Decidable.byContradiction
   intro h6;rw[tk_nil (by omega),read1_nil]at h3;exact h3 (by decide)
  omega
 | bad l c e=>rw[hn]at h;cases h
 | out=>rw[hn]at h;cases h
theorem quotP_out{ts:List Tok}{k:Nat}(h:quotP ts k= .out):False:=by
 unfold quotP at h
 cases hn:numP ts k with
 | ok a k2=>
  rw[hn]at h;simp only[PR.bind]at h
  split at h
  ·
   exact unex_out h
  split at h
  ·
   exact fail_out h
  split at h
  ·
   exact fail_out h
  cases h
 | bad l c e=>rw[hn]at h;cases h
 | out=>exact numP_out hn
theorem map_ok{α β:Type}{f:α→β}{r:PR α}{b:β}{k:Nat}(h:r.map f= .ok b k):∃a,r= .ok a k:=by
 cases r with
 | ok a k1=>injection h with h1 h2;exact⟨a,by rw[h2]⟩
 | bad l c e=>cases h
 | out=>cases h
theorem map_out{α β:Type}{f:α→β}{r:PR α}(h:r.map f= .out):r= .out:=by
 cases r with
 | ok a k1=>cases h
 | bad l c e=>cases h
 | out=>rfl
section
variable {nm:List UInt8→Bool} {ts:List Tok}
theorem forward:∀f:Nat,
 (∀k n e k1,sumP nm ts f k n= .ok e k1→k<k1∧k1≤ts.length)∧(∀e0 k n e k1,k≤ts.length→chS nm ts f e0 k n= .ok e k1→k≤k1∧k1≤ts.length)∧
 (∀k n e k1,termP nm ts f k n= .ok e k1→k<k1∧k1≤ts.length)∧(∀e0 k n e k1,k≤ts.length→chT nm ts f e0 k n= .ok e k1→k≤k1∧k1≤ts.length)∧
 (∀k n e k1,firstP nm ts f k n= .ok e k1→k<k1∧k1≤ts.length)∧(∀k n e k1,factorP nm ts f k n= .ok e k1→k<k1∧k1≤ts.length)∧
 (∀k n e k1,atomP nm ts f k n= .ok e k1→k<k1∧k1≤ts.length)∧(∀k n e k1,encP nm ts f k n= .ok e k1→k<k1∧k1≤ts.length):=by
 intro f
 induction f with
 | zero=>
  refine⟨?_,?_,?_,?_,?_,?_,?_,?_⟩<;>intros<;>rename_i h<;>first | (unfold sumP at h;cases h) | (unfold chS at h;cases h) | (unfold termP at h;cases h) | (unfold chT at h;cases h) | (unfold firstP at h;cases h) | (unfold factorP at h;cases h) | (unfold atomP at h;cases h) | (unfold encP at h;cases h)
 | succ f ih=>
  obtain⟨o,i,j,l,p,g,q,m⟩:=ih;refine⟨?_,?_,?_,?_,?_,?_,?_,?_⟩
  ·
   intro k n e k1 h;unfold sumP at h
   split at h
   ·
    rename_i e1 k2 h2
    have b:=j _ _ _ _ h2;have c:=i _ _ _ _ _ b.2 h
    omega
   rename_i h2
   exact(h2 _ _ h).elim
  ·
   intro e0 k n e k1 hk h;unfold chS at h
   split at h
   ·
    split at h
    ·
     rename_i e1 k2 h2
     have b:=j _ _ _ _ h2;have c:=i _ _ _ _ _ b.2 h
     omega
    rename_i h2
    exact(h2 _ _ h).elim
   injection h with h1 h2
   omega
  ·
   intro k n e k1 h;unfold termP at h
   split at h
   ·
    rename_i e1 k2 h2
    have b:=p _ _ _ _ h2;have c:=l _ _ _ _ _ b.2 h
    omega
   rename_i h2
   exact(h2 _ _ h).elim
  ·
   intro e0 k n e k1 hk h;unfold chT at h
   split at h
   ·
    split at h
    ·
     rename_i e1 k2 h2
     have b:=g _ _ _ _ h2;have c:=l _ _ _ _ _ b.2 h
     omega
    rename_i h2
    exact(h2 _ _ h).elim
   injection h with h1 h2
   omega
  ·
   intro k n e k1 h;unfold firstP at h
   split at h
   ·
    obtain⟨a,d⟩:=map_ok h;exact quotP_ok d
   exact g _ _ _ _ h
  ·
   intro k n e k1 h;unfold factorP at h
   split at h
   ·
    obtain⟨a,d⟩:=map_ok h;exact numP_ok d
   split at h
   ·
    split at h
    ·
     exact(fail_ok h).elim
    split at h
    ·
     rename_i e1 k2 h2
     have b:=g _ _ _ _ h2;injection h with c h5
     omega
    rename_i h2
    exact(h2 _ _ h).elim
   split at h
   ·
    rename_i e1 k2 h2
    have b:=q _ _ _ _ h2
    split at h
    ·
     rename_i h6
     have r:=isS_lt h6
     split at h
     ·
      exact(unex_ok h).elim
     rename_i h8
     split at h
     ·
      exact(fail_ok h).elim
     injection h with c h5
     have:k2+1<ts.length:=by
      apply tk_lt
      intro h9
      apply h8
      unfold integerP;rw[h9]
      rfl
     omega
    injection h with c h5
    omega
   rename_i h2
   exact(h2 _ _ h).elim
  ·
   intro k n e k1 h;unfold atomP at h
   split at h
   ·
    obtain⟨a,d⟩:=map_ok h;exact numP_ok d
   split at h
   ·
    rename_i h2
    injection h with c h5;have:=tk_lt (ts:=ts) (k:=k) (by omega)
    omega
   split at h
   ·
    split at h
    ·
     rename_i e1 k2 h2
     have b:=m _ _ _ _ h2;injection h with c h5
     omega
    rename_i h2
    exact(h2 _ _ h).elim
   exact m _ _ _ _ h
  intro k n e k1 h;unfold encP at h
  split at h
  ·
   split at h
   ·
    exact(fail_ok h).elim
   split at h
   ·
    rename_i e1 k2 h2
    have b:=o _ _ _ _ h2
    split at h
    ·
     rename_i h6
     have r:=isS_lt h6;injection h with c h5
     omega
    exact(unex_ok h).elim
   rename_i h2
   exact(h2 _ _ h).elim
  exact(unex_ok h).elim
theorem enough:∀f:Nat,
 (∀k n,8*(ts.length-k)+8≤f→sumP nm ts f k n≠ .out)∧(∀e0 k n,k≤ts.length→8*(ts.length-k)+2≤f→chS nm ts f e0 k n≠ .out)∧
 (∀k n,8*(ts.length-k)+7≤f→termP nm ts f k n≠ .out)∧(∀e0 k n,k≤ts.length→8*(ts.length-k)+2≤f→chT nm ts f e0 k n≠ .out)∧
 (∀k n,8*(ts.length-k)+6≤f→firstP nm ts f k n≠ .out)∧(∀k n,8*(ts.length-k)+5≤f→factorP nm ts f k n≠ .out)∧
 (∀k n,8*(ts.length-k)+4≤f→atomP nm ts f k n≠ .out)∧(∀k n,8*(ts.length-k)+3≤f→encP nm ts f k n≠ .out):=by
 intro f
 induction f with
 | zero=>refine⟨?_,?_,?_,?_,?_,?_,?_,?_⟩<;>intros<;>omega
 | succ f ih=>
  obtain⟨m,d,g,i,o,c,p,j⟩:=ih;obtain⟨s,t,l,u,q,r,v,x⟩:=forward (nm:=nm) (ts:=ts) f;refine⟨?_,?_,?_,?_,?_,?_,?_,?_⟩
  ·
   intro k n hf h;unfold sumP at h
   split at h
   ·
    rename_i e1 k2 h2
    have a:=l _ _ _ _ h2;exact d _ _ _ a.2 (by omega) h
   exact g _ _ (by omega) h
  ·
   intro e0 k n hk hf h;unfold chS at h
   split at h
   ·
    rename_i hc
    have b:=tk_lt (ts:=ts) (k:=k) (by omega)
    split at h
    ·
     rename_i e1 k2 h2
     have a:=l _ _ _ _ h2;exact d _ _ _ a.2 (by omega) h
    exact g _ _ (by omega) h
   cases h
  ·
   intro k n hf h;unfold termP at h
   split at h
   ·
    rename_i e1 k2 h2
    have a:=q _ _ _ _ h2;exact i _ _ _ a.2 (by omega) h
   exact o _ _ (by omega) h
  ·
   intro e0 k n hk hf h;unfold chT at h
   split at h
   ·
    rename_i hc
    have b:=tk_lt (ts:=ts) (k:=k) (by omega)
    split at h
    ·
     rename_i e1 k2 h2
     have a:=r _ _ _ _ h2;exact i _ _ _ a.2 (by omega) h
    exact c _ _ (by omega) h
   cases h
  ·
   intro k n hf h;unfold firstP at h
   split at h
   ·
    exact quotP_out (map_out h)
   exact c _ _ (by omega) h
  ·
   intro k n hf h;unfold factorP at h
   split at h
   ·
    exact numP_out (map_out h)
   split at h
   ·
    rename_i hs
    have b:k<ts.length:=by
     unfold signP at hs
     split at hs
     ·
      rename_i h6
      exact isS_lt h6
     cases hs
    split at h
    ·
     exact fail_out h
    split at h
    ·
     cases h
    exact c _ _ (by omega) h
   split at h
   ·
    split at h
    ·
     split at h
     ·
      exact unex_out h
     split at h
     ·
      exact fail_out h
     cases h
    cases h
   exact p _ _ (by omega) h
  ·
   intro k n hf h;unfold atomP at h
   split at h
   ·
    exact numP_out (map_out h)
   split at h
   ·
    cases h
   split at h
   ·
    rename_i h2
    have b:=tk_lt (ts:=ts) (k:=k) (by omega)
    split at h
    ·
     cases h
    exact j _ _ (by omega) h
   exact j _ _ (by omega) h
  intro k n hf h;unfold encP at h
  split at h
  ·
   rename_i h6
   have b:=isS_lt h6
   split at h
   ·
    exact fail_out h
   split at h
   ·
    split at h
    ·
     cases h
    exact unex_out h
   exact m _ _ (by omega) h
  exact unex_out h
end
end Go.Fl.Pa
namespace Go.Proofs.YtgcjmhjjpbcfmaaGreatDoor
open Go.RowKit Go.Fl Go.Fl.Nm Go.Fl.Dy Go.Fl.Rt
theorem iter_below(w:World)(s:ByteArray)(p:Nat):Below w.heap.size w (w.iter s p):=below_a1 _ _
theorem takeWhile_append_dropWhile_tail(b:List UInt8)(c:UInt8)(h:c∈b):b=b.takeWhile (· !=c)++c::(b.dropWhile (· !=c)).tail:=by
 induction b with
 | nil=>cases h
 | cons x b ih=>
  by_cases hx:x=c
  ·
   subst hx;simp
  have hx2:(x !=c)=true:=by simpa using hx
  rcases List.mem_cons.1 h with h | h
  ·
   exact absurd h.symm hx
  rw[List.takeWhile_cons_of_pos (by simpa using hx2),List.dropWhile_cons_of_pos (by simpa using hx2),List.cons_append,←ih h]
theorem tw_not_mem(b:List UInt8)(c:UInt8):c∉b.takeWhile (· !=c):=by
 induction b with
 | nil=>simp
 | cons x b ih=>
  by_cases hx:x=c
  ·
   subst hx;simp
  rw[List.takeWhile_cons_of_pos (by simpa using hx)];intro h
  rcases List.mem_cons.1 h with h | h
  ·
   exact hx h.symm
  exact ih h
theorem data_append(a b:ByteArray):(a++b).data.toList=a.data.toList++b.data.toList:=by simp
theorem pow10_le{k:Nat}(h:k≤18):10^k≤1000000000000000000:=by
 have e:(10:Nat)^18=1000000000000000000:=(by decide);rw[←e];exact Nat.pow_le_pow_right (by omega) h
theorem parse_point(s:ByteArray)(w:World)(hT:RX w)(hs:s.size≤1000)(ng:Bool)(rest:List UInt8)(hn:(s.data.toList.head? ==some 45)=ng)(hr:(if ng then s.data.toList.tail else s.data.toList)=rest)(a b:List UInt8)(hab:rest=a++46::b)(h46:(46:UInt8)∉a):
 Calls Tryz.prog 129 #[.string s] w (RtE (read1 s.data.toList) w):=by
 have T:=prefix_head s.data.toList;have U:=hI T
 have H:rest.length≤1000:=by
  have:s.data.toList.length≤1000:=by rw[length_data];exact hs
  rw[←hr];split
  ·
   simp at this ⊢;omega
  exact this
 have r:=hI (read1_point hn hr hab h46);have W:=hI hn;have HR:=hI hr;have I:=hI hab;have ak:=hI h46;clear hT hn hr hab h46 T
 go_in
 go_wp2_with fail;generalize i:World.alloc _ _=w1;obtain⟨al,am⟩:=gn1 i;clear i;refine(Tryz.strings_CutPrefix s ⟨#[45]⟩ w1).mono ?_;rintro e w' ⟨rfl,i⟩;obtain rfl:=i.symm;clear i
 obtain⟨R,J⟩:∃R:ByteArray,R=⟨(Lib.trimPrefix s.data.toList (⟨#[45]⟩:ByteArray).data.toList).toArray⟩:=⟨_,rfl⟩
 have X:=hI (show R.data.toList=rest by rw[J];show Lib.trimPrefix s.data.toList [45]=rest;rw[U.o.2,W.o,HR.o]);have an:=hI (show Lib.hasPrefix s.data.toList (⟨#[45]⟩:ByteArray).data.toList=ng by show Lib.hasPrefix s.data.toList [45]=ng;rw[U.o.1,W.o]);rw[←J,an.o];clear J;have av:R.size≤1000:=(by rw[←length_data,X.o];exact H);go_wp2_with fail;refine(cut_yes R 46 a b w1 (by omega) (by rw[X.o,I.o]) ak.o).mono ?_;rintro e w2 ⟨A,B,rfl,u,m,Y⟩;have Z:=am.o.b9 Y;have L:=al.o.t Y;have hA:A.size≤1000:=(by rw[←length_data,u.o];have:=H;rw[I.o]at this;simp at this;omega);have hB:B.size≤1000:=(by rw[←length_data,m.o];have:=H;rw[I.o]at this;simp at this;omega);have aa:=hI (show A.size=a.length by rw[←length_data,u.o]);have D:=hI (show B.size=b.length by rw[←length_data,m.o]);go_wp2_with fail
 cases da:digs a with
 | false=>
  have c:=hI da;clear da;refine(rdigits_any A w2 (by omega)).mono ?_;rw[u.o,c.o];rintro e w3 ⟨rfl,x⟩;have n:=Z.o.b9 x;have j:=n.o.cell;have E:=n.o.frozen;go_wp2;refine bodyPost_ret (v:= .tuple #[.agg #[.i 0,.i 0],.i 3]) (by simp[results,Tryz.results129,go_sem,j]) rfl ?_;rw[show read1 s.data.toList=(0,0,3)from r.o.trans (by rw[c.o];rfl)]
  exact⟨rfl,hI (store2_below (L.o.trans (x.o.mono L.o.size)) n.o _ _ (Nat.le_refl _))⟩
 | true=>
  have c:=hI da;clear da;refine(rdigits_any A w2 (by omega)).mono ?_;rw[u.o,c.o];rintro e w3 ⟨rfl,x⟩;have n:=Z.o.b9 x;have M:=L.o.t x;go_wp2_with fail
  cases o:digs b with
  | false=>
   have d:=hI o;clear o;refine(rdigits_any B w3 (by omega)).mono ?_;rw[m.o,d.o];rintro e w4 ⟨rfl,y⟩;have k:=n.o.b9 y;have j:=k.o.cell;have E:=k.o.frozen;go_wp2;refine bodyPost_ret (v:= .tuple #[.agg #[.i 0,.i 0],.i 3]) (by simp[results,Tryz.results129,go_sem,j]) rfl ?_;rw[show read1 s.data.toList=(0,0,3)from r.o.trans (by rw[c.o,d.o];rfl)]
   exact⟨rfl,hI (store2_below (M.o.trans (y.o.mono M.o.size)) k.o _ _ (Nat.le_refl _))⟩
  | true=>
   have d:=hI o;clear o;refine(rdigits_any B w3 (by omega)).mono ?_;rw[m.o,d.o];rintro e w4 ⟨rfl,y⟩;have k:=n.o.b9 y;have ab:=M.o.t y
   by_cases hbig:18<A.size+B.size
   ·
    have o:decide ((18:Int)<(A.size:Int)+B.size)=true:=dT;have q:=hI (show 18<a.length+b.length by rw[←aa.o,←D.o];exact hbig);clear hbig;have j:=k.o.cell;have E:=k.o.frozen;go_wp2;refine bodyPost_ret (v:= .tuple #[.agg #[.i 0,.i 0],.i 5]) (by simp[results,Tryz.results129,go_sem,j]) rfl ?_;rw[show read1 s.data.toList=(0,0,5)from r.o.trans (by rw[c.o,d.o,if_pos q.o];rfl)];exact⟨rfl,hI (store2_below ab.o k.o _ _ (Nat.le_refl _))⟩
   have o:decide ((18:Int)<(A.size:Int)+B.size)=false:=dF;have q:=hI (show ¬ 18<a.length+b.length by rw[←aa.o,←D.o];exact hbig);have N:=hI (show(A++B).data.toList=a++b by rw[data_append,u.o,m.o]);have ao:=hI (show digs (A++B).data.toList=true by rw[N.o];exact digs_append c.o (digs_all d.o));have ap:=hI (show(A++B).data.toList.length≤18 by rw[N.o,List.length_append];have:=q.o;omega)
   have aq:=hI (show ∀p (h:p<B.size),(B[p]'h).toNat <128 from fun p h=>by
    have ac:=digs_all d.o;rw[List.all_eq_true]at ac;have:=ac B[p] (by rw[←m.o];exact List.getElem_mem (by simpa using h))
    unfold isDig at this;simp at this;omega)
   obtain⟨V,hV⟩:∃V:Nat,V=dval (a++b):=⟨_,rfl⟩
   have ay:V<1000000000000000000:=by
    have h1:=dval_lt (a++b) (by rw[List.all_append,digs_all c.o,digs_all d.o];rfl);have h2:=pow10_le (show(a++b).length≤18 by rw[List.length_append];have:=q.o;omega)
    omega
   have O:=hI hV.symm;clear hV;go_wp2_with fail;refine(number_ok (A++B) w4 ao.o ap.o).mono ?_;rw[N.o,O.o];rintro e w5 ⟨rfl,ae⟩;have ar:=ab.o.t ae;go_wp2
   go_loopw [12] (fun dv wr=>∃pos:Nat,pos≤B.size∧wr=w5.iter B pos∧dv= .i (10^pos:Nat)) (fun _ wr=>B.size-wr.iterPos w5.heap.size)
   case atStart=>exact⟨0,Nat.zero_le _,rfl,rfl⟩
   obtain⟨pos,a1,rfl,rfl⟩:=hrel
   by_cases hlt:pos<B.size
   ·
    have af:∀ty,(Instr.next (.p w5.heap.size) true ty).run Tryz.prog (w5.iter B pos)=_:=fun ty=>run_next_ascii w5 B pos ty hlt (aq.o pos hlt)
    have P:=pow10_le (show pos+1≤18 by omega)
    obtain⟨z,F⟩:∃z:Nat,z=10^pos:=⟨_,rfl⟩
    rw[Nat.pow_succ,←F]at P;rw[←F];have HZ:=hI F;clear F
    go_wp2
    go_roundw
    case rel=>exact⟨pos+1,by omega,rfl,by rw[(show(10^(pos+1):Nat)=10^pos*10 from Nat.pow_succ 10 pos),←HZ.o];go_num⟩
    case measure=>simp;omega
   obtain rfl:pos=B.size:=by omega
   have af:∀ty,(Instr.next (.p w5.heap.size) true ty).run Tryz.prog (w5.iter B B.size)=_:=fun ty=>run_next_end w5 B B.size ty hlt
   have P:=pow10_le (show B.size≤18 by omega)
   obtain⟨g,Q⟩:∃z:Nat,z=10^B.size:=⟨_,rfl⟩
   rw[←Q]at P ⊢;have ag:=hI Q;clear Q;go_upto_region 19 with(fail);obtain⟨S,i⟩:=eX (w5.iter B B.size);have ah:=hI (show Below w5.heap.size w5 S by rw[i];exact iter_below _ _ _);rw[←i];clear i af;have ai:=hI ((k.o.belowW ae.o).belowW ah.o);have G:=ar.o.t ah
   cases ng with
   | true=>
    go_wp2_with fail;refine(make_q (-(V:Int)) (g:Int) S (by omega) (by omega) (by omega) (by omega)).mono ?_;rintro e w7 ⟨rfl,C⟩;have l:=ai.o.b9 C;have j:=l.o.cell;have E:=l.o.frozen;go_wp2;refine bodyPost_ret (v:= .tuple #[.agg #[.i (make (-(V:Int)) (g:Int)).1,.i (make (-(V:Int)) (g:Int)).2.1],.i (make (-(V:Int)) (g:Int)).2.2]) (by simp[results,Tryz.results129,go_sem,j]) rfl ?_;rw[show read1 s.data.toList=make (-(V:Int)) (g:Int)from r.o.trans (by rw[c.o,d.o,if_neg q.o,O.o,←D.o,ag.o];rfl)]
    exact⟨rfl,hI (store2_below (G.o.trans (C.o.mono G.o.size)) l.o _ _ (Nat.le_refl _))⟩
   | false=>
    go_wp2_with fail;refine(make_q (V:Int) (g:Int) S (by omega) (by omega) (by omega) (by omega)).mono ?_;rintro e w7 ⟨rfl,C⟩;have l:=ai.o.b9 C;have j:=l.o.cell;have E:=l.o.frozen;go_wp2;refine bodyPost_ret (v:= .tuple #[.agg #[.i (make (V:Int) (g:Int)).1,.i (make (V:Int) (g:Int)).2.1],.i (make (V:Int) (g:Int)).2.2]) (by simp[results,Tryz.results129,go_sem,j]) rfl ?_;rw[show read1 s.data.toList=make (V:Int) (g:Int)from r.o.trans (by rw[c.o,d.o,if_neg q.o,O.o,←D.o,ag.o];rfl)];exact⟨rfl,hI (store2_below (G.o.trans (C.o.mono G.o.size)) l.o _ _ (Nat.le_refl _))⟩
theorem parse_slash(s:ByteArray)(w:World)(hT:RX w)(hs:s.size≤1000)(ng:Bool)(rest:List UInt8)(hn:(s.data.toList.head? ==some 45)=ng)(hr:(if ng then s.data.toList.tail else s.data.toList)=rest)(a b:List UInt8)(h46:(46:UInt8)∉rest)(hab:rest=a++47::b)(h47:(47:UInt8)∉a):
 Calls Tryz.prog 129 #[.string s] w (RtE (read1 s.data.toList) w):=by
 have HT:=hI hT;have P:=prefix_head s.data.toList;have Q:=hI P
 have F:rest.length≤1000:=by
  have:s.data.toList.length≤1000:=by rw[length_data];exact hs
  rw[←hr];split
  ·
   simp at this ⊢;omega
  exact this
 have u:=hI (read1_slash hn hr h46 hab h47);have S:=hI hn;have HR:=hI hr;have G:=hI hab;have ak:=hI h46;have al:=hI h47;clear hT hn hr hab h46 h47 P
 go_in
 go_wp2_with fail;generalize x:World.alloc _ _=w1;obtain⟨T,am⟩:=gn1 x;clear x;refine(Tryz.strings_CutPrefix s ⟨#[45]⟩ w1).mono ?_;rintro e w' ⟨rfl,x⟩;obtain rfl:=x.symm;clear x
 obtain⟨R,H⟩:∃R:ByteArray,R=⟨(Lib.trimPrefix s.data.toList (⟨#[45]⟩:ByteArray).data.toList).toArray⟩:=⟨_,rfl⟩
 have I:=hI (show R.data.toList=rest by rw[H];show Lib.trimPrefix s.data.toList [45]=rest;rw[Q.o.2,S.o,HR.o]);have an:=hI (show Lib.hasPrefix s.data.toList (⟨#[45]⟩:ByteArray).data.toList=ng by show Lib.hasPrefix s.data.toList [45]=ng;rw[Q.o.1,S.o]);rw[←H,an.o];clear H;have az:R.size≤1000:=(by rw[←length_data,I.o];exact F);go_wp2_with fail;refine(cut_no R 46 w1 (by omega) (by rw[I.o];exact ak.o)).mono ?_;rintro e w' ⟨rfl,rfl⟩;go_wp2_with fail;refine(cut_yes R 47 a b w1 (by omega) (by rw[I.o,G.o]) al.o).mono ?_;rintro e w2 ⟨A,B,rfl,k,l,J⟩;have U:=am.o.b9 J;have L:=T.o.t J;have hA:A.size≤1000:=(by rw[←length_data,k.o];have:=F;rw[G.o]at this;simp at this;omega);have hB:B.size≤1000:=(by rw[←length_data,l.o];have:=F;rw[G.o]at this;simp at this;omega);have W:=hI (show A.size=a.length by rw[←length_data,k.o]);have X:=hI (show B.size=b.length by rw[←length_data,l.o]);go_wp2_with fail
 cases da:digs a with
 | false=>
  have c:=hI da;clear da;refine(rdigits_any A w2 (by omega)).mono ?_;rw[k.o,c.o];rintro e w3 ⟨rfl,n⟩;have o:=U.o.b9 n;have i:=o.o.cell;have C:=o.o.frozen;go_wp2;refine bodyPost_ret (v:= .tuple #[.agg #[.i 0,.i 0],.i 3]) (by simp[results,Tryz.results129,go_sem,i]) rfl ?_;rw[show read1 s.data.toList=(0,0,3)from u.o.trans (by rw[c.o];rfl)]
  exact⟨rfl,hI (store2_below (L.o.trans (n.o.mono L.o.size)) o.o _ _ (Nat.le_refl _))⟩
 | true=>
  have c:=hI da;clear da;refine(rdigits_any A w2 (by omega)).mono ?_;rw[k.o,c.o];rintro e w3 ⟨rfl,n⟩;have o:=U.o.b9 n;have M:=L.o.t n;go_wp2_with fail
  cases p:digs b with
  | false=>
   have g:=hI p;clear p;refine(rdigits_any B w3 (by omega)).mono ?_;rw[l.o,g.o];rintro e w4 ⟨rfl,q⟩;have j:=o.o.b9 q;have i:=j.o.cell;have C:=j.o.frozen;go_wp2;refine bodyPost_ret (v:= .tuple #[.agg #[.i 0,.i 0],.i 3]) (by simp[results,Tryz.results129,go_sem,i]) rfl ?_;rw[show read1 s.data.toList=(0,0,3)from u.o.trans (by rw[c.o,g.o];rfl)]
   exact⟨rfl,hI (store2_below (M.o.trans (q.o.mono M.o.size)) j.o _ _ (Nat.le_refl _))⟩
  | true=>
   have g:=hI p;clear p;refine(rdigits_any B w3 (by omega)).mono ?_;rw[l.o,g.o];rintro e w4 ⟨rfl,q⟩;have j:=o.o.b9 q;have Y:=M.o.t q
   obtain⟨D,Z⟩:∃z:Nat,z=max A.size B.size:=⟨_,rfl⟩
   have a2:max (A.size:Int) (B.size:Int)=(D:Int):=by omega
   by_cases hbig:18<D
   ·
    have p:decide ((18:Int)<(D:Int))=true:=dT;have r:=hI (show 18<max a.length b.length by rw[←W.o,←X.o];omega);clear hbig Z;have i:=j.o.cell;have C:=j.o.frozen;go_wp2;refine bodyPost_ret (v:= .tuple #[.agg #[.i 0,.i 0],.i 5]) (by simp[results,Tryz.results129,go_sem,i]) rfl ?_;rw[show read1 s.data.toList=(0,0,5)from u.o.trans (by rw[c.o,g.o,if_pos r.o];rfl)];exact⟨rfl,hI (store2_below Y.o j.o _ _ (Nat.le_refl _))⟩
   have p:decide ((18:Int)<(D:Int))=false:=dF;have r:=hI (show ¬ 18<max a.length b.length by rw[←W.o,←X.o];omega);have aa:A.data.toList.length≤18:=(by rw[length_data];omega);have ab:B.data.toList.length≤18:=(by rw[length_data];omega);have ao:=hI aa;have ap:=hI ab;clear hbig Z aa ab;have aq:=hI (show(A++B).data.toList=a++b by rw[data_append,k.o,l.o]);have ar:=hI (show digs (A++B).data.toList=true by rw[aq.o];exact digs_append c.o (digs_all g.o));have au:(A++B).size≤100000:=(by rw[ByteArray.size_append];omega)
   obtain⟨V,hV⟩:∃V:Nat,V=dval a:=⟨_,rfl⟩
   obtain⟨d,hD⟩:∃V:Nat,V=dval b:=⟨_,rfl⟩
   have a3:V<1000000000000000000:=by
    have h1:=dval_lt a (digs_all c.o);have h2:=pow10_le (show a.length≤18 by have:=r.o;omega)
    omega
   have a4:d<1000000000000000000:=by
    have h1:=dval_lt b (digs_all g.o);have h2:=pow10_le (show b.length≤18 by have:=r.o;omega)
    omega
   have N:=hI hV.symm;have O:=hI hD.symm;clear hV hD;go_wp2_with fail;refine(rnumber_any (A++B) w4 ar.o au ((((HT.o.belowW T.o).belowW J.o).belowW n.o).belowW q.o)).mono ?_;rintro e w5 ⟨v0,rfl,ae⟩;have ax:=Y.o.t ae;go_wp2_with fail;refine(number_ok A w5 (by rw[k.o];exact c.o) ao.o).mono ?_;rw[k.o,N.o];rintro e w6 ⟨rfl,af⟩;have ay:=ax.o.t af;go_wp2_with fail;refine(number_ok B w6 (by rw[l.o];exact g.o) ap.o).mono ?_;rw[l.o,O.o];rintro e w7 ⟨rfl,ag⟩;have ah:=hI (((j.o.belowW ae.o).belowW af.o).belowW ag.o);have E:=ay.o.t ag
   cases ng with
   | true=>
    go_wp2_with fail;refine(make_q (-(V:Int)) (d:Int) w7 (by omega) (by omega) (by omega) (by omega)).mono ?_;rintro e w8 ⟨rfl,y⟩;have m:=ah.o.b9 y;have i:=m.o.cell;have C:=m.o.frozen;go_wp2;refine bodyPost_ret (v:= .tuple #[.agg #[.i (make (-(V:Int)) (d:Int)).1,.i (make (-(V:Int)) (d:Int)).2.1],.i (make (-(V:Int)) (d:Int)).2.2]) (by simp[results,Tryz.results129,go_sem,i]) rfl ?_;rw[show read1 s.data.toList=make (-(V:Int)) (d:Int)from u.o.trans (by rw[c.o,g.o,if_neg r.o,N.o,O.o];rfl)]
    exact⟨rfl,hI (store2_below (E.o.trans (y.o.mono E.o.size)) m.o _ _ (Nat.le_refl _))⟩
   | false=>
    go_wp2_with fail;refine(make_q (V:Int) (d:Int) w7 (by omega) (by omega) (by omega) (by omega)).mono ?_;rintro e w8 ⟨rfl,y⟩;have m:=ah.o.b9 y;have i:=m.o.cell;have C:=m.o.frozen;go_wp2;refine bodyPost_ret (v:= .tuple #[.agg #[.i (make (V:Int) (d:Int)).1,.i (make (V:Int) (d:Int)).2.1],.i (make (V:Int) (d:Int)).2.2]) (by simp[results,Tryz.results129,go_sem,i]) rfl ?_;rw[show read1 s.data.toList=make (V:Int) (d:Int)from u.o.trans (by rw[c.o,g.o,if_neg r.o,N.o,O.o];rfl)];exact⟨rfl,hI (store2_below (E.o.trans (y.o.mono E.o.size)) m.o _ _ (Nat.le_refl _))⟩
theorem parse_none(s:ByteArray)(w:World)(hT:RX w)(hs:s.size≤1000)(ng:Bool)(rest:List UInt8)(hn:(s.data.toList.head? ==some 45)=ng)(hr:(if ng then s.data.toList.tail else s.data.toList)=rest)(h46:(46:UInt8)∉rest)(h47:(47:UInt8)∉rest):
 Calls Tryz.prog 129 #[.string s] w (RtE (read1 s.data.toList) w):=by
 have I:=prefix_head s.data.toList;have J:=hI I
 have Y:rest.length≤1000:=by
  have:s.data.toList.length≤1000:=by rw[length_data];exact hs
  rw[←hr];split
  ·
   simp at this ⊢;omega
  exact this
 have n:=hI (read1_none hn hr h46 h47);have L:=hI hn;have Z:=hI hr;have aa:=hI h46;have ab:=hI h47;clear hT hn hr h46 h47 I
 go_in
 go_wp2_with fail;generalize b:World.alloc _ _=w1;obtain⟨u,M⟩:=gn1 b;clear b;refine(Tryz.strings_CutPrefix s ⟨#[45]⟩ w1).mono ?_;rintro e w' ⟨rfl,b⟩;obtain rfl:=b.symm;clear b
 obtain⟨R,x⟩:∃R:ByteArray,R=⟨(Lib.trimPrefix s.data.toList (⟨#[45]⟩:ByteArray).data.toList).toArray⟩:=⟨_,rfl⟩
 have g:=hI (show R.data.toList=rest by rw[x];show Lib.trimPrefix s.data.toList [45]=rest;rw[J.o.2,L.o,Z.o]);have ac:=hI (show Lib.hasPrefix s.data.toList (⟨#[45]⟩:ByteArray).data.toList=ng by show Lib.hasPrefix s.data.toList [45]=ng;rw[J.o.1,L.o]);rw[←x,ac.o];clear x;have aj:R.size≤1000:=(by rw[←length_data,g.o];exact Y);go_wp2_with fail;refine(cut_no R 46 w1 (by omega) (by rw[g.o];exact aa.o)).mono ?_;rintro e w' ⟨rfl,rfl⟩;go_wp2_with fail;refine(cut_no R 47 w1 (by omega) (by rw[g.o];exact ab.o)).mono ?_;rintro e w' ⟨rfl,rfl⟩;go_wp2_with fail;have y:=hI (show R.size=rest.length by rw[←length_data,g.o])
 cases da:digs rest with
 | false=>
  have c:=hI da;clear da;refine(rdigits_any R w1 (by omega)).mono ?_;rw[g.o,c.o];rintro e w2 ⟨rfl,l⟩;have d:=M.o.b9 l;have i:=d.o.cell;have B:=d.o.frozen;go_wp2;refine bodyPost_ret (v:= .tuple #[.agg #[.i 0,.i 0],.i 3]) (by simp[results,Tryz.results129,go_sem,i]) rfl ?_;rw[show read1 s.data.toList=(0,0,3)from n.o.trans (by rw[c.o];rfl)]
  exact⟨rfl,hI (store2_below (u.o.trans (l.o.mono u.o.size)) d.o _ _ (Nat.le_refl _))⟩
 | true=>
  have c:=hI da;clear da;refine(rdigits_any R w1 (by omega)).mono ?_;rw[g.o,c.o];rintro e w2 ⟨rfl,l⟩;have d:=M.o.b9 l;have N:=u.o.t l
  by_cases hbig:18<R.size
  ·
   have db:decide ((18:Int)<(R.size:Int))=true:=dT;have j:=hI (show 18<rest.length by rw[←y.o];exact hbig);clear hbig;have i:=d.o.cell;have B:=d.o.frozen;go_wp2;refine bodyPost_ret (v:= .tuple #[.agg #[.i 0,.i 0],.i 5]) (by simp[results,Tryz.results129,go_sem,i]) rfl ?_;rw[show read1 s.data.toList=(0,0,5)from n.o.trans (by rw[c.o,if_pos j.o];rfl)];exact⟨rfl,hI (store2_below N.o d.o _ _ (Nat.le_refl _))⟩
  have db:decide ((18:Int)<(R.size:Int))=false:=dF;have j:=hI (show ¬ 18<rest.length by rw[←y.o];exact hbig)
  obtain⟨E,o⟩:∃E:ByteArray,E=⟨#[]⟩:=⟨_,rfl⟩
  have O:E.size=0:=(by rw[o];rfl);have C:=hI (show(R++E).data.toList=rest by rw[data_append,g.o,o];simp);have ae:=hI (show digs (R++E).data.toList=true by rw[C.o];exact c.o);have af:=hI (show(R++E).data.toList.length≤18 by rw[C.o];have:=j.o;omega)
  obtain⟨V,P⟩:∃V:Nat,V=dval rest:=⟨_,rfl⟩
  have ak:V<1000000000000000000:=by
   have h1:=dval_lt rest (digs_all c.o);have h2:=pow10_le (show rest.length≤18 by have:=j.o;omega)
   omega
  have D:=hI P.symm;clear P hbig;rw[←o];have Q:=hI O;have an:E.size≤0:=(by omega);have ao:decide ((18:Int)<(R.size:Int)+E.size)=false:=decide_eq_false (by have:=j.o;have:=y.o;omega);have ag:=hI (show ∀p (h:p<E.size),(E[p]'h).toNat <128 from fun p h=>absurd h (by omega));clear o O;go_wp2_with fail;refine(number_ok (R++E) w2 ae.o af.o).mono ?_;rw[C.o,D.o];rintro e w3 ⟨rfl,S⟩;have ah:=N.o.t S;go_wp2
  go_loopw [12] (fun dv wr=>∃pos:Nat,pos≤E.size∧wr=w3.iter E pos∧dv= .i (10^pos:Nat)) (fun _ wr=>E.size-wr.iterPos w3.heap.size)
  case atStart=>exact⟨0,Nat.zero_le _,rfl,rfl⟩
  obtain⟨pos,ap,rfl,rfl⟩:=hrel
  by_cases hlt:pos<E.size
  ·
   have T:∀ty,(Instr.next (.p w3.heap.size) true ty).run Tryz.prog (w3.iter E pos)=_:=fun ty=>run_next_ascii w3 E pos ty hlt (ag.o pos hlt)
   have F:=pow10_le (show pos+1≤18 by omega)
   obtain⟨z,q⟩:∃z:Nat,z=10^pos:=⟨_,rfl⟩
   rw[Nat.pow_succ,←q]at F;rw[←q];have HZ:=hI q;clear q
   go_wp2
   go_roundw
   case rel=>exact⟨pos+1,by omega,rfl,by rw[(show(10^(pos+1):Nat)=10^pos*10 from Nat.pow_succ 10 pos),←HZ.o];go_num⟩
   case measure=>simp;omega
  obtain rfl:pos=E.size:=by omega
  have T:∀ty,(Instr.next (.p w3.heap.size) true ty).run Tryz.prog (w3.iter E E.size)=_:=fun ty=>run_next_end w3 E E.size ty hlt
  have F:=pow10_le (show E.size≤18 by omega)
  obtain⟨a,G⟩:∃z:Nat,z=10^E.size:=⟨_,rfl⟩
  rw[←G]at F ⊢;have U:=hI G;clear G;go_upto_region 19 with(fail);obtain⟨H,b⟩:=eX (w3.iter E E.size);have W:=hI (show Below w3.heap.size w3 H by rw[b];exact iter_below _ _ _);rw[←b];clear b T;have X:=hI ((d.o.belowW S.o).belowW W.o);have r:=ah.o.t W
  cases ng with
  | true=>
   go_wp2_with fail;refine(make_q (-(V:Int)) (a:Int) H (by omega) (by omega) (by omega) (by omega)).mono ?_;rintro e w5 ⟨rfl,m⟩;have k:=X.o.b9 m;have i:=k.o.cell;have B:=k.o.frozen;go_wp2;refine bodyPost_ret (v:= .tuple #[.agg #[.i (make (-(V:Int)) (a:Int)).1,.i (make (-(V:Int)) (a:Int)).2.1],.i (make (-(V:Int)) (a:Int)).2.2]) (by simp[results,Tryz.results129,go_sem,i]) rfl ?_;rw[show read1 s.data.toList=make (-(V:Int)) (a:Int)from n.o.trans (by rw[c.o,if_neg j.o,D.o,U.o,Q.o];rfl)]
   exact⟨rfl,hI (store2_below (r.o.trans (m.o.mono r.o.size)) k.o _ _ (Nat.le_refl _))⟩
  | false=>
   go_wp2_with fail;refine(make_q (V:Int) (a:Int) H (by omega) (by omega) (by omega) (by omega)).mono ?_;rintro e w5 ⟨rfl,m⟩;have k:=X.o.b9 m;have i:=k.o.cell;have B:=k.o.frozen;go_wp2;refine bodyPost_ret (v:= .tuple #[.agg #[.i (make (V:Int) (a:Int)).1,.i (make (V:Int) (a:Int)).2.1],.i (make (V:Int) (a:Int)).2.2]) (by simp[results,Tryz.results129,go_sem,i]) rfl ?_;rw[show read1 s.data.toList=make (V:Int) (a:Int)from n.o.trans (by rw[c.o,if_neg j.o,D.o,U.o,Q.o];rfl)];exact⟨rfl,hI (store2_below (r.o.trans (m.o.mono r.o.size)) k.o _ _ (Nat.le_refl _))⟩
theorem parse_any'(s:ByteArray)(w:World)(hT:RX w)(hs:s.size≤1000):
 Calls Tryz.prog 129 #[.string s] w (RtE (read1 s.data.toList) w):=by
 rcases split_plain (if(s.data.toList.head? ==some 45)then s.data.toList.tail else s.data.toList)with⟨h1,h2⟩ | ⟨a,c,b,hab,hc,h1,h2⟩
 ·
  exact parse_none s w hT hs _ _ rfl rfl h1 h2
 rcases hc with rfl | rfl
 ·
  exact parse_point s w hT hs _ _ rfl rfl a b hab h1
 by_cases h46:(46:UInt8)∈b
 ·
  obtain⟨x,y,hxy,hx⟩:∃x y,b=x++46::y∧(46:UInt8)∉x:=⟨b.takeWhile (· !=46),(b.dropWhile (· !=46)).tail,by
   have h:=takeWhile_append_dropWhile_tail b 46 h46
   exact h,tw_not_mem b 46⟩
  exact parse_point s w hT hs _ _ rfl rfl (a++47::x) y (by rw[hab,hxy];simp) (by
   intro h
   rcases List.mem_append.1 h with h | h
   ·
    exact h1 h
   rcases List.mem_cons.1 h with h | h
   ·
    exact absurd h (by decide)
   exact hx h)
 exact parse_slash s w hT hs _ _ rfl rfl a b (by
  rw[hab];intro h
  rcases List.mem_append.1 h with h | h
  ·
   exact h1 h
  rcases List.mem_cons.1 h with h | h
  ·
   exact absurd h (by decide)
  exact h46 h) hab h2
end Go.Proofs.YtgcjmhjjpbcfmaaGreatDoor
namespace Go.Proofs.YtgcjmhjjpbcfmaaGreatDoor
open Go.RowKit Go.Fl Go.Fl.Lx Go.Fl.Nm Go.Fl.Fm Go.Fl.Rt Go.Fl.Pa
def RtP(w0:World)(g:Nat)(A:Option Addr)(len cap:Nat)(ts:List Tok)(m:Nat)(r:PR (Int×Int))(w:World)(e:Ending)(w':World):Prop:=
  match r with
  | .ok a k1=>e= .returned (.agg #[.int .i64 a.1,.int .i64 a.2])∧Hid (w.grownBy w' (some g))∧Hid (Env w0 g A len cap ts k1 m w')
  | .bad ln co er=>e=pan ln co er∧Hid (w.grownBy w' (some g))
  | .out=>False
theorem rtp_unex{w0:World}{g:Nat}{A:Option Addr}{len cap:Nat}{ts:List Tok}{m k:Nat}{w w':World}{e:Ending}(he:e=panU ts k)(hg:Hid (w.grownBy w' (some g))):RtP w0 g A len cap ts m (unex ts k) w e w':=by
 unfold unex failP;unfold panU at he
 split
 ·
  rename_i h
  rw[if_pos h]at he;exact⟨he,hg⟩
 rename_i h
 rw[if_neg h]at he;exact⟨he,hg⟩
theorem panU_pan(ts:List Tok)(k:Nat):∃c,panU ts k= .panicked c:=by unfold panU;split<;>exact⟨_,rfl⟩
theorem grown_new{w w':World}{g r:Nat}(h:w.grownBy w' (some g))(hr:w.heap.size≤r)(t:TypeId)(V:Array Value):w.grownBy (putB w' r t V) (some g):=
 ⟨h.os,h.tape,h.output,by rw[putB_size];exact h.size,fun k hk hne=>by
  unfold putB;rw[Array.getElem?_setIfInBounds,if_neg (by omega)]
  exact h.block k hk hne⟩
theorem Env.far{w0 w:World}{g:Nat}{A:Option Addr}{len cap:Nat}{ts:List Tok}{k m:Nat}(h:Env w0 g A len cap ts k m w){r:Nat}(hr:r≠g)(hl:w0.heap.size≤r)(t:TypeId)(V:Array Value):Env w0 g A len cap ts k m (putB w r t V):=
 ⟨h.t,h.b.trans (putB_below w r t V hl),h.lo,Blk.far h.p (Ne.symm hr) V,h.kk⟩
theorem make_small(x y:Int): -4611686018427387904≤(make x y).1∧(make x y).1≤4611686018427387904∧ -4611686018427387904≤(make x y).2.1∧(make x y).2.1≤4611686018427387904∧0≤(make x y).2.2∧(make x y).2.2≤20:=by
 have e:MX=1073741824:=rfl;unfold make
 split
 ·
  exact⟨by decide,by decide,by decide,by decide,by decide,by decide⟩
 split
 ·
  exact⟨by decide,by decide,by decide,by decide,by decide,by decide⟩
 rename_i h1 h2
 obtain⟨a,ha⟩:=eX (x.natAbs/Nat.gcd x.natAbs y.natAbs);obtain⟨b,hb⟩:=eX (y.natAbs/Nat.gcd x.natAbs y.natAbs);rw[←ha,←hb]at h2 ⊢;simp only;refine⟨?_,?_,by omega,by omega,by decide,by decide⟩
 ·
  split<;>omega
 split<;>omega
def SmR(r:Int×Int×Int):Prop:= -4611686018427387904≤r.1∧r.1≤4611686018427387904∧ -4611686018427387904≤r.2.1∧r.2.1≤4611686018427387904∧0≤r.2.2∧r.2.2≤20
theorem read1_small(l:List UInt8): -4611686018427387904≤(read1 l).1∧(read1 l).1≤4611686018427387904∧ -4611686018427387904≤(read1 l).2.1∧(read1 l).2.1≤4611686018427387904∧0≤(read1 l).2.2∧(read1 l).2.2≤20:=by
 have ite_P:∀(c:Prop) [Decidable c] (a b:Int×Int×Int),SmR a→SmR b→SmR (if c then a else b):=fun c _ a b ha hb=>by split<;>assumption
 have z3:SmR (0,0,3):=⟨by decide,by decide,by decide,by decide,by decide,by decide⟩;have z5:SmR (0,0,5):=⟨by decide,by decide,by decide,by decide,by decide,by decide⟩
 have key:SmR (read1 l):=by
  unfold read1;exact ite_P _ _ _ z3 (ite_P _ _ _ z5 (make_small _ _))
 exact key
def ndR(a:Int×Int):Nd:=⟨⟨1,a.1,a.2,⟨#[]⟩,0⟩,none,0,0⟩
theorem pNum(a:Int×Int)(w:World):Calls Tryz.prog 192 #[.agg #[.i a.1,.i a.2]] w (RetB (ndR a).val w):=by
 obtain⟨n,d⟩:=a;simp only[ndR,Nd.val]
 go_in
 go_upto_region 1 with(fail);obtain⟨g,c⟩:=eX ((w.alloc (Obj.cells #[.i n,.i d] 42)).alloc (Obj.cells #[.i 0,.i 0,.i 0,.string ⟨#[]⟩,.i 0,.sn] 57));have i:=World.size_alloc w (Obj.cells #[.i n,.i d] 42);have j:=hI (show Lo w g by rw[c];exact((Below.refl _ _).alloc (Nat.le_refl _) _).alloc (by rw[i];omega) _);have k:=hI (show Blk g w.heap.size 42 #[.i n,.i d]by rw[c];exact(Blk.new _ _ _).alloc _)
 have b:=hI (show Blk g (w.heap.size+1) 57 #[.i 0,.i 0,.i 0,.string ⟨#[]⟩,.i 0,.sn]by
  rw[c];have h:=Blk.new (w.alloc (Obj.cells #[.i n,.i d] 42)) 57 #[.i 0,.i 0,.i 0,.string ⟨#[]⟩,.i 0,.sn]
  rwa [i]at h)
 rw[←c];clear c i;obtain⟨s,u,x,y⟩:=k.o.all2;obtain⟨z,B,C,D,E,F,G,H,I,J,L,M⟩:=b.o.all6;go_wp2;rw[pst6 b.o];have l:=(b.o.put #[.i 1,.i n,.i d,.string ⟨#[]⟩,.i 0,.sn]).cell;have m:=(b.o.put #[.i 1,.i n,.i d,.string ⟨#[]⟩,.i 0,.sn]).cell;have o:=(b.o.put #[.i 1,.i n,.i d,.string ⟨#[]⟩,.i 0,.sn]).cell;have p:=(b.o.put #[.i 1,.i n,.i d,.string ⟨#[]⟩,.i 0,.sn]).cell;have q:=(b.o.put #[.i 1,.i n,.i d,.string ⟨#[]⟩,.i 0,.sn]).cell;have r:=(b.o.put #[.i 1,.i n,.i d,.string ⟨#[]⟩,.i 0,.sn]).cell;refine bodyPost_ret (v:= .agg #[.i 1,.i n,.i d,.string ⟨#[]⟩,.i 0,.sn]) (by simp[results,Tryz.results192,go_sem,l,m,o,p,q,r]) rfl ?_;exact⟨rfl,hI (j.o.put (by omega) _ _)⟩
theorem pFraction{w0 w:World}{g:Nat}{A:Option Addr}{len cap:Nat}{ts:List Tok}{k m:Nat}(h:Env w0 g A len cap ts k m w)(hk:k≤140000):Calls Tryz.prog 98 #[.p g] w (RetB (.b (fracP ts k)) w):=by
 have p:=hI (pSign h);have i:=hI h;have y:=signP_le ts k;obtain⟨s,j⟩:=eX (signP ts k)
 obtain⟨a,l⟩:∃a,integerP ts (k+s)=a:=⟨_,rfl⟩
 obtain⟨b,d⟩:∃a,isS false ts (k+(s+1)) [47]=a:=⟨_,rfl⟩
 obtain⟨c,hc⟩:∃a,integerP ts (k+(s+2))=a:=⟨_,rfl⟩
 have q:=hI (show fracP ts k=(a&&(b&&c))by unfold fracP;rw[←j,l,Nat.add_assoc k s 1,d,Nat.add_assoc k s 2,hc]);rw[←j]at p y;rw[q.o];have r:=hI (fun(w1:World) (d:Below w.heap.size w w1)=>pInteger (i.o.belowW d) s (by omega));have u:=hI (fun(w1:World) (d:Below w.heap.size w w1)=>pIs (i.o.belowW d) (s+1) (by omega) ⟨#[47]⟩);have v:=hI (fun(w1:World) (d:Below w.heap.size w w1)=>pInteger (i.o.belowW d) (s+2) (by omega));rw[show kwP (⟨#[47]⟩:ByteArray).data.toList=false by decide,show(⟨#[47]⟩:ByteArray).data.toList=[47]from rfl,d]at u;rw[l]at r;rw[hc]at v;have D:IntKind.i64.wrap ((s:Int)+1)=(s:Int)+1:=(by rw[IntKind.wrap_i64];omega);have E:IntKind.i64.wrap ((s:Int)+2)=(s:Int)+2:=(by rw[IntKind.wrap_i64];omega);clear h j l d hc q
 go_in
 go_wp2_with fail;refine p.o.mono ?_;rintro e w2 ⟨rfl,x⟩;go_wp2_with fail;refine(r.o w2 x.o).mono ?_;rintro e w3 ⟨rfl,z⟩;have n:=x.o.t z
 cases a with
 | false=>
  go_wp2;go_ret
  exact⟨rfl,n⟩
 | true=>
  go_wp2_with fail;refine(u.o w3 n.o).mono ?_;rintro e w4 ⟨rfl,B⟩;have o:=n.o.t B
  cases b with
  | false=>
   go_wp2;go_ret
   exact⟨rfl,o⟩
  | true=>
   go_wp2_with fail;refine(v.o w4 o.o).mono ?_;rintro e w5 ⟨rfl,C⟩;go_wp2;go_ret;exact⟨rfl,o.o.t C⟩
theorem pNumber{w0 w:World}{g:Nat}{A:Option Addr}{len cap:Nat}{ts:List Tok}{k m:Nat}(h:Env w0 g A len cap ts k m w)(hk:k≤130000)(hR:RX w0):Calls Tryz.prog 100 #[.p g] w (RtP w0 g A len cap ts m (numP ts k) w):=by
 obtain⟨b,x⟩:∃b,isS false ts k [45]=b:=⟨_,rfl⟩
 have F:signP ts k=if b=true then 1 else 0:=by unfold signP;rw[x]
 go_in
 go_upto_region 1 with(fail);generalize hw1:World.alloc _ _=w1;obtain⟨Y,F1⟩:=gn1 hw1;clear hw1;have Z:=hI (pAccept (h.belowW Y.o) (by omega) ⟨#[45]⟩);have aa:=hI (show some w.heap.size≠some g from fun e=>by have:=h.gl;injection e with e;omega);rw[show kwP (⟨#[45]⟩:ByteArray).data.toList=false by decide,show(⟨#[45]⟩:ByteArray).data.toList=[45]from rfl,x]at Z;go_wp2_with fail;refine Z.o.mono ?_;rintro e w2 ⟨rfl,ab,j⟩;have HG:=hI (grown_tr (grown_of (some g) Y.o) ab.o);obtain⟨a,y⟩:=eX (k+signP ts k);have ad:(if b=true then k+1 else k)=a:=(by rw[y,F];split<;>rfl);rw[ad]at j;obtain⟨T,ae⟩:=eX (tk ts a);have i:=hI ae;have G:=hI y;have ar:=hI x;have au:=hI h;have ba:a≤130001:=(by rw[y,F];split<;>omega);clear ae y ad F x h;have bb:=j
 by_cases hk2:T.kind=2
 case neg=>
  have o:=hI (show numP ts k=unex ts a by unfold numP;rw[←G.o,←i.o,if_pos hk2]);have d1:((T.kind:Int)!=2)=true:=(by rw[bne_iff_ne];omega);go_wp2_with fail;refine(j.o.tok 0 (by omega)).mono ?_;rw[Nat.add_zero,←i.o];rintro e w3 ⟨rfl,l⟩;have hF:=tokF0 T;go_wp2_with fail;refine((j.o.belowW l.o).unx).mono ?_;rintro e w4 ⟨he,r⟩;obtain⟨c,hc⟩:=panU_pan ts a;have HC:=hI hc;rw[hc]at he;subst he;clear hc;go_wp2_with fail;rw[o.o];exact⟨rfl,rtp_unex HC.o.symm (hI (grown_tr HG.o (grown_tr (grown_of _ l.o) (grown_of _ r.o))))⟩
 have d1:((T.kind:Int)!=2)=false:=by rw[hk2];rfl
 obtain⟨n,d,q,B⟩:∃n d q,read1 T.text=(n,d,q):=⟨_,_,_,rfl⟩
 have H:=read1_small T.text;rw[B]at H;simp only at H;obtain⟨bc,bd,be,bf,ay,bg⟩:=H;go_wp2_with fail;refine(j.o.tok 0 (by omega)).mono ?_;rw[Nat.add_zero,←i.o];rintro e w3 ⟨rfl,l⟩;have hF:=tokF0 T;have bh:=tokF1 T;go_wp2_with fail;refine((j.o.belowW l.o).tok 0 (by omega)).mono ?_;rw[Nat.add_zero,←i.o];rintro e w4 ⟨rfl,r⟩;have I:=hI ((j.o.belowW l.o).belowW r.o);go_wp2_with fail;refine(parse_any' ⟨T.text.toArray⟩ w4 (hR.belowW I.o.b) (by have:=(I.o.t.tk a).1;rw[←i.o]at this;show T.text.length≤1000;omega)).mono ?_;rw[show(⟨T.text.toArray⟩:ByteArray).data.toList=T.text from rfl,B];rintro e w5 ⟨rfl,ag⟩;have ah:=hI (l.o.trans ((r.o.trans (ag.o.mono r.o.size)).mono l.o.size));have J:=I.o.b9 ag;have L:=hI ((F1.o.grown ab.o aa.o).belowW ah.o);go_upto_region 5 with(fail);generalize hw6:World.alloc _ _=w6;obtain⟨M,Q6⟩:=gn1 hw6;clear hw6;have N:=J.o.b9 M;have ai:=hI (grown_tr (grown_tr HG.o (grown_of (some g) ah.o)) (grown_of (some g) M.o))
 by_cases her:q=0
 case neg=>
  have o:=hI (show numP ts k=failP ts a q.toNat by unfold numP;rw[←G.o,←i.o,if_neg (by rw[hk2];simp),B,if_pos her]);have d2:(q !=0)=true:=(by rw[bne_iff_ne];exact her);go_wp2_with fail;refine(N.o.fail q).mono ?_;rw[←i.o];rintro e C ⟨rfl,a0⟩;go_wp2_with fail;rw[o.o];unfold failP RtP;rw[←i.o];exact⟨rfl,by rw[Int.toNat_of_nonneg ay],hI (grown_tr ai.o (grown_of _ a0.o))⟩
 subst her
 have o:=hI (show numP ts k= .ok ((if b=true then -n else n),d) (a+1)by
  unfold numP
  rw[←G.o,←i.o,if_neg (by rw[hk2];simp),B,if_neg (by simp),ar.o])
 have aj:w5.heap.size≠g:=Nat.ne_of_gt J.o.gl
 have O:w.heap.size≠g:=fun e=>aa.o (by rw[e])
 have a1:w.heap.size≠w5.heap.size:=Nat.ne_of_lt L.o.lt;have a2:w.heap.size≤w5.heap.size:=Nat.le_of_lt L.o.lt;have a3:w0.heap.size≤w5.heap.size:=J.o.b.size;have ak:w0.heap.size≤w.heap.size:=au.o.b.size;have e1:IntKind.i64.wrap ((a:Int)+1)=(a:Int)+1:=(by rw[IntKind.wrap_i64];omega);have D:=hI (show Blk w6 g 124 #[.l A len cap,.i (a:Nat),.i (m:Nat)]from N.o.p);have p:=D.o.cell;have f1:w6.frozen? ⟨g,1,none⟩=false:=D.o.frozen 1;go_upto_region 8 with(fail);rw[D.o.setCell_eq];have P:=hI (N.o.put (a+1) m (by omega));have s:=hI (Q6.o.far (t':=124) aj #[.l A len cap,.i ((a+1:Nat):Int),.i (m:Nat)]);have u:=hI ((L.o.belowW M.o).far (t':=124) O #[.l A len cap,.i ((a+1:Nat):Int),.i (m:Nat)]);have Q:=hI (grown_tr ai.o (putB_grown w6 g 124 #[.l A len cap,.i ((a+1:Nat):Int),.i (m:Nat)]));clear p f1 D;obtain⟨C,R⟩:=eX (putB w6 g 124 #[.l A len cap,.i ((a+1:Nat):Int),.i (m:Nat)]);have al:putB w6 g 124 ((#[.l A len cap,.i (a:Nat),.i (m:Nat)]:Array Value).setIfInBounds 1 (.i ((a:Int)+1)))=C:=(by rw[R];rfl);rw[←R]at P s u Q;rw[al];clear R al
 cases b with
 | false=>
  obtain⟨S,U,V,W⟩:=s.o.all2;obtain⟨r0,h0,r1,h1⟩:=u.o.all2;go_wp2;rw[pst2 u.o];have z:=(u.o.put #[.i n,.i d]).cell;refine bodyPost_ret (v:= .agg #[.i n,.i d]) (by simp[results,Tryz.results100,go_sem,z]) rfl ?_;rw[o.o]
  exact⟨rfl,hI (grown_new Q.o (Nat.le_refl _) _ _),hI (P.o.far O ak _ _)⟩
 | true=>
  have e3:IntKind.i64.wrap (-n)= -n:=(by rw[IntKind.wrap_i64];omega);obtain⟨S,U,V,W⟩:=s.o.all2;go_upto_region 10 with(fail);rw[s.o.setCell_eq];have am:=hI (P.o.far aj a3 42 #[.i (-n),.i d]);have Q8:=hI (s.o.put #[.i (-n),.i d]);have E:=hI (u.o.far (t':=42) a1 #[.i (-n),.i d]);have ao:=hI (grown_new Q.o a2 42 #[.i (-n),.i d]);clear S U V W;obtain⟨w8,X⟩:=eX (putB C w5.heap.size 42 #[.i (-n),.i d]);have ap:putB C w5.heap.size 42 ((#[.i n,.i d]:Array Value).setIfInBounds 0 (.i (-n)))=w8:=(by rw[X];rfl);rw[←X]at am Q8 E ao;rw[ap];clear X ap;obtain⟨S,U,V,W⟩:=Q8.o.all2;obtain⟨r0,h0,r1,h1⟩:=E.o.all2;go_wp2;rw[pst2 E.o];have z:=(E.o.put #[.i (-n),.i d]).cell;refine bodyPost_ret (v:= .agg #[.i (-n),.i d]) (by simp[results,Tryz.results100,go_sem,z]) rfl ?_;rw[o.o];exact⟨rfl,hI (grown_new ao.o (Nat.le_refl _) _ _),hI (am.o.far O ak _ _)⟩
theorem numP_small{ts:List Tok}{k k1:Nat}{a:Int×Int}(h:numP ts k= .ok a k1): -4611686018427387904≤a.1∧a.1≤4611686018427387904:=by
 unfold numP at h
 split at h
 ·
  exact(unex_ok h).elim
 split at h
 ·
  exact(fail_ok h).elim
 have hs:=read1_small (tk ts (k+signP ts k)).text;injection h with h1 h2;rw[←h1];simp only
 split<;>omega
theorem rtp_bad{w0:World}{g:Nat}{A:Option Addr}{len cap:Nat}{ts:List Tok}{m ln co er:Nat}{w w':World}(hg:Hid (w.grownBy w' (some g))):RtP w0 g A len cap ts m (.bad ln co er) w (pan ln co er) w':=⟨rfl,hg⟩
theorem rtp_fail{w0:World}{g:Nat}{A:Option Addr}{len cap:Nat}{ts:List Tok}{m k:Nat}{er:Int}(he:0≤er){w w':World}(hg:Hid (w.grownBy w' (some g))):RtP w0 g A len cap ts m (failP ts k er.toNat) w (pan (tk ts k).line (tk ts k).col er) w':=by
 unfold failP;have h:=rtp_bad (w0:=w0) (A:=A) (len:=len) (cap:=cap) (ts:=ts) (m:=m) (ln:=(tk ts k).line) (co:=(tk ts k).col) (er:=er.toNat) hg
 rwa [Int.toNat_of_nonneg he]at h
theorem pQuotient{w0 w:World}{g:Nat}{A:Option Addr}{len cap:Nat}{ts:List Tok}{k m:Nat}(h:Env w0 g A len cap ts k m w)(hk:k≤120000)(hR:RX w0):Calls Tryz.prog 99 #[.p g] w (RtP w0 g A len cap ts m (quotP ts k) w):=by
 have bi:ts.length≤100000:=by have:=h.t.hl;have:=h.t.hs;omega
 go_in
 go_upto_region 1 with(fail);generalize hw1:World.alloc _ _=w1;obtain⟨M,F1⟩:=gn1 hw1;clear hw1;have N:=hI (show some w.heap.size≠some g from fun e=>by have:=h.gl;injection e with e;omega);have u:=hI (pNumber (h.belowW M.o) (by omega) hR)
 have ae:w.heap.size≠g:=fun e=>N.o (by rw[e])
 have az:w0.heap.size≤w.heap.size:=h.b.size;have bj:w.heap.size<w1.heap.size:=F1.o.lt;clear h
 cases hn:numP ts k with
 | out=>exact(numP_out hn).elim
 | bad ln co i=>
  rw[hn]at u;have l:=hI (show quotP ts k= .bad ln co i by unfold quotP;rw[hn];rfl);clear hn;go_wp2_with fail;refine u.o.mono ?_;rintro e w2 ⟨rfl,HG⟩;go_wp2_with fail;rw[l.o]
  exact⟨rfl,rtp_bad (hI (grown_tr (grown_of _ M.o) HG.o))⟩
 | ok a k1=>
  rw[hn]at u;have a1:=numP_small hn;have bk:=numP_ok hn
  have l:=hI (show quotP ts k=(if !isS false ts k1 [47]then unex ts k1
   else if(read1 (tk ts (k1+1)).text).2.2≠0 then failP ts (k1+1) (read1 (tk ts (k1+1)).text).2.2.toNat
   else if(make a.1 (read1 (tk ts (k1+1)).text).1).2.2≠0 then failP ts (k1+1) (make a.1 (read1 (tk ts (k1+1)).text).1).2.2.toNat
   else .ok ((make a.1 (read1 (tk ts (k1+1)).text).1).1,(make a.1 (read1 (tk ts (k1+1)).text).1).2.1) (k1+2))by unfold quotP;rw[hn];rfl)
  obtain⟨O,ad⟩:=a;clear hn;go_wp2_with fail;refine u.o.mono ?_;rintro e w2 ⟨rfl,P,Q⟩;have bm:=P.o.size;go_upto_region 2 with(fail);generalize hw3:World.alloc _ _=w3;obtain⟨R,Q3⟩:=gn1 hw3;clear hw3;have af:=Q.o.b9 R;have ag:=hI (grown_tr (grown_tr (grown_of (some g) M.o) P.o) (grown_of (some g) R.o));have S:w2.heap.size≠g:=Nat.ne_of_gt Q.o.gl;have a3:=hI (show some w2.heap.size≠some g from fun e=>S (Option.some.inj e));have a4:w.heap.size≠w2.heap.size:=(by omega);have a5:w.heap.size≤w2.heap.size:=(by omega);have a6:w0.heap.size≤w2.heap.size:=Q.o.b.size
  cases hc:isS false ts k1 [47]with
  | false=>
   have q:=hI (show quotP ts k=unex ts k1 by rw[l.o,hc];rfl);have U:=hI (pWantN af.o (by omega) ⟨#[47]⟩ (by rw[show kwP (⟨#[47]⟩:ByteArray).data.toList=false by decide];exact hc));clear hc l;go_wp2_with fail;refine U.o.mono ?_;rintro e w4 ⟨he,r⟩;obtain⟨c,hc⟩:=panU_pan ts k1;have HC:=hI hc;rw[hc]at he;subst he;clear hc;go_wp2_with fail;rw[q.o]
   exact⟨rfl,rtp_unex HC.o.symm (hI (grown_tr ag.o r.o))⟩
  | true=>
   have U:=hI (pWantY af.o (by omega) ⟨#[47]⟩ (by rw[show kwP (⟨#[47]⟩:ByteArray).data.toList=false by decide];exact hc));obtain⟨T,V⟩:=eX (tk ts (k1+1));have HT:=hI V
   obtain⟨n,d,i,B⟩:∃n d i,read1 T.text=(n,d,i):=⟨_,_,_,rfl⟩
   have W:=read1_small T.text;rw[B]at W;simp only at W;obtain⟨bn,bo,bp,bq,a8,br⟩:=W
   obtain⟨x,y,j,C⟩:∃x y j,make O n=(x,y,j):=⟨_,_,_,rfl⟩
   have X:=make_small O n;rw[C]at X;simp only at X a1
   have q:=hI (show quotP ts k=(if i≠0 then failP ts (k1+1) i.toNat else if j≠0 then failP ts (k1+1) j.toNat else .ok (x,y) (k1+2))by
    rw[l.o,hc,←V,B];simp only[C]
    rfl)
   have a9:=hI B;have ba:=hI C;clear hc l V B C;go_wp2_with fail;refine U.o.mono ?_;rintro e w4 ⟨rfl,r,Y⟩;go_wp2_with fail;refine(Y.o.tok 0 (by omega)).mono ?_;rw[Nat.add_zero,←HT.o];rintro e w5 ⟨rfl,aj⟩;have ak:=Y.o.b9 aj;have bs:=tokF1 T;go_wp2_with fail;refine(parse_any' ⟨T.text.toArray⟩ w5 (hR.belowW ak.o.b) (by have:=(ak.o.t.tk (k1+1)).1;rw[←HT.o]at this;show T.text.length≤1000;omega)).mono ?_;rw[show(⟨T.text.toArray⟩:ByteArray).data.toList=T.text from rfl,a9.o];rintro e w6 ⟨rfl,bb⟩;have bc:=aj.o.t bb;go_upto_region 4 with(fail);generalize hw7:World.alloc _ _=w7;obtain⟨bd,P7⟩:=gn1 hw7;clear hw7;have D:=bc.o.t bd;have al:=Y.o.b9 D;have Q7:=hI ((Q3.o.grown r.o a3.o).belowW D.o);have ao:=hI (grown_tr ag.o (grown_tr r.o (grown_of (some g) D.o)))
   by_cases her:i=0
   case neg=>
    have s:=hI (show quotP ts k=failP ts (k1+1) i.toNat by rw[q.o,if_pos her]);have d1:(i==0)=false:=(by rw[beq_eq_false_iff_ne];exact her);have d2:(i !=0)=true:=(by rw[bne_iff_ne];exact her);go_wp2_with fail;refine(al.o.fail i).mono ?_;rintro e w8 ⟨rfl,o⟩;go_wp2_with fail;rw[s.o];exact⟨rfl,rtp_fail a8 (hI (grown_tr ao.o (grown_of _ o.o)))⟩
   subst her;obtain⟨E,F,G,H⟩:=Q7.o.all2;have p:=P7.o.cell
   go_wp2_with fail;refine(make_q O n w7 (by omega) (by omega) (by omega) (by omega)).mono ?_;rw[ba.o];rintro e w8 ⟨rfl,o⟩;have Z:=Q7.o.b9 o;clear E F G H p;obtain⟨E,F,G,H⟩:=Z.o.all2;go_upto_region 6 with(fail);rw[pst2 Z.o];have I:=hI ((al.o.belowW o.o).far S a6 42 #[.i x,.i y]);have Q9:=hI (Z.o.put #[.i x,.i y]);have F9:=hI ((((((F1.o.grown P.o N.o).belowW R.o).grown r.o N.o).belowW D.o).belowW o.o).far (t':=42) a4 #[.i x,.i y]);have aa:=hI (grown_new (grown_tr ao.o (grown_of (some g) o.o)) a5 42 #[.i x,.i y]);clear E F G H;obtain⟨w9,ar⟩:=eX (putB w8 w2.heap.size 42 #[.i x,.i y]);rw[←ar]at I Q9 F9 aa ⊢;clear ar
   by_cases he9:j=0
   case neg=>
    have s:=hI (show quotP ts k=failP ts (k1+1) j.toNat by rw[q.o,if_neg (by simp),if_pos he9]);have d2:(j !=0)=true:=(by rw[bne_iff_ne];exact he9);go_wp2_with fail;refine(I.o.fail j).mono ?_;rintro e wa ⟨rfl,bg⟩;go_wp2_with fail;rw[s.o];exact⟨rfl,rtp_fail X.2.2.2.2.1 (hI (grown_tr aa.o (grown_of _ bg.o)))⟩
   subst he9;have s:=hI (show quotP ts k= .ok (x,y) (k1+2)by rw[q.o,if_neg (by simp),if_neg (by simp)]);have e1:IntKind.i64.wrap ((k1:Int)+1+1)=(k1:Int)+1+1:=(by rw[IntKind.wrap_i64];omega);have J:=hI (show Blk w9 g 124 #[.l A len cap,.i ((k1:Int)+1),.i (m:Nat)]from I.o.p);have p:=J.o.cell;have f1:w9.frozen? ⟨g,1,none⟩=false:=J.o.frozen 1
   go_upto_region 9 with(fail);rw[J.o.setCell_eq];have av:=hI (I.o.put (k1+2) m (by omega));have Qa:=hI (Q9.o.far (t':=124) S #[.l A len cap,.i ((k1+2:Nat):Int),.i (m:Nat)]);have L:=hI (F9.o.far (t':=124) ae #[.l A len cap,.i ((k1+2:Nat):Int),.i (m:Nat)]);have ax:=hI (grown_tr aa.o (putB_grown w9 g 124 #[.l A len cap,.i ((k1+2:Nat):Int),.i (m:Nat)]));clear p f1;obtain⟨wa,ab⟩:=eX (putB w9 g 124 #[.l A len cap,.i ((k1+2:Nat):Int),.i (m:Nat)]);have ay:putB w9 g 124 ((#[.l A len cap,.i ((k1:Int)+1),.i (m:Nat)]:Array Value).setIfInBounds 1 (.i ((k1:Int)+1+1)))=wa:=(by rw[ab];rfl);rw[←ab]at av Qa L ax;rw[ay];clear ab ay J;obtain⟨E,F,G,H⟩:=Qa.o.all2;obtain⟨r0,h0,r1,h1⟩:=L.o.all2;go_wp2;rw[pst2 L.o];have z:=(L.o.put #[.i x,.i y]).cell;refine bodyPost_ret (v:= .agg #[.i x,.i y]) (by simp[results,Tryz.results99,go_sem,z]) rfl ?_;rw[s.o];exact⟨rfl,hI (grown_new ax.o (Nat.le_refl _) _ _),hI (av.o.far ae az _ _)⟩
