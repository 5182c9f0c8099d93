import Derived.Test.YtgcjmhjjpbcfmaaGreatDoorQB
set_option maxHeartbeats 1600000
set_option maxRecDepth 100000
namespace Go.Proofs.YtgcjmhjjpbcfmaaGreatDoor
open Go.RowKit Go.Fl Go.Fl.Lx
def tokCells(t:Tok):List Value:=[.i t.kind,.string ⟨t.text.toArray⟩,.i t.line,.i t.col]
def toksCells(l:List Tok):List Value:=l.flatMap tokCells
def SplitRel(w:World)(s:ByteArray)(k:Nat)(ov:Value)(wr:World):Prop:=
  ∃(rest:ByteArray) (ln co:Nat) (toks:List Tok),k=rest.size∧toks.length+rest.size≤s.size∧ln+rest.size≤70000∧co+rest.size≤70000∧
    Hid (split s.data.toList (1,1)=pre toks (split rest.data.toList (ln,co)))∧
    wr.ownsRow (w.heap.size+2) 165 4 ov toks.length (toksCells toks)∧
    Hid (Blk wr w.heap.size 63 #[.i 0,.i 0])∧Hid (Blk wr (w.heap.size+1) 161 (scan rest ln co))∧Below w.heap.size w wr∧w.heap.size+2≤wr.heap.size
theorem Tryz.infoTok:(Tryz.prog.info? 165).map (fun i=>(i.zero,i.size,i.bytes))=some (some (.agg #[.i 0,.string ⟨#[]⟩,.i 0,.i 0]),4,40):=by kernel_rfl
def SplitPost(l:List UInt8)(w:World)(e:Ending)(w':World):Prop:=
  Below w.heap.size w w'∧
  match lexRes l with
  | .error (ln,co,er)=>e= .returned (.tuple #[.slice none 0 0,.agg #[.int .i64 ln,.int .i64 co],.int .i64 er])
  | .ok toks=>∃v,e= .returned (.tuple #[v,.agg #[.int .i64 0,.int .i64 0],.int .i64 0])∧w'.ownsRow w.heap.size 165 4 v toks.length (toksCells toks)
theorem rest_cons(t:ByteArray)(h:0<t.size):t.data.toList=t[0]::t.data.toList.drop 1:=by
 have:=drop_cons t 0 h
 simpa using this
theorem mk_of_data(t:ByteArray)(l:List UInt8)(h:t.data.toList=l):t=⟨l.toArray⟩:=by
 subst h;rfl
section
variable {w wr:World} {s rest t':ByteArray} {ln co n:Nat} {toks:List Tok} {ov:Value}
theorem rel_skip(hlen:toks.length+rest.size≤s.size)(hln:ln+rest.size≤70000)(hco:co+rest.size≤70000)
 (HM:split s.data.toList (1,1)=pre toks (split rest.data.toList (ln,co))) (HO:wr.ownsRow (w.heap.size+2) 165 4 ov toks.length (toksCells toks))
 (HBp:Blk wr w.heap.size 63 #[.i 0,.i 0]) (HBs:Blk wr (w.heap.size+1) 161 (scan rest ln co)) (HL:Below w.heap.size w wr) (hsz:w.heap.size+2≤wr.heap.size)
 (hn:0<n) (hnr:n≤rest.size) (ht:t'.data.toList=rest.data.toList.drop n)
 (hsp:split rest.data.toList (ln,co)=split (rest.data.toList.drop n) (adv (rest.data.toList.take n) (ln,co))) (o:Obj):
 SplitRel w s t'.size ov (putB (wr.alloc o) (w.heap.size+1) 161 (scan t' (adv (rest.data.toList.take n) (ln,co)).1 (adv (rest.data.toList.take n) (ln,co)).2))∧t'.size<rest.size:=by
 have hts:t'.size=rest.size-n:=(by rw[←length_data,ht];simp);have hg:=adv_grow (rest.data.toList.take n) (ln,co);have htl:(rest.data.toList.take n).length=n:=(by simp;omega);rw[htl]at hg;refine⟨⟨t',_,_,toks,rfl,by omega,by omega,by omega,?_,own_putB (HO.alloc _) (by omega) _ _,(HBp.alloc _).far (by omega) _,(HBs.alloc _).put _,?_,?_⟩,by omega⟩
 ·
  unfold Hid;rw[HM,hsp,ht]
 ·
  exact(HL.alloc (by omega) _).trans (putB_below _ _ _ _ (by omega))
 rw[putB_size];simp;omega
end
section
variable {w wr w1 w2:World} {s rest t':ByteArray} {ln co n:Nat} {toks:List Tok} {ov ov':Value}
theorem rel_tok(hlen:toks.length+rest.size≤s.size)(hln:ln+rest.size≤70000)(hco:co+rest.size≤70000)
 (HM:split s.data.toList (1,1)=pre toks (split rest.data.toList (ln,co))) (HO:wr.ownsRow (w.heap.size+2) 165 4 ov toks.length (toksCells toks))
 (HBp:Blk wr w.heap.size 63 #[.i 0,.i 0]) (HBs:Blk wr (w.heap.size+1) 161 (scan rest ln co)) (HL:Below w.heap.size w wr) (hsz:w.heap.size+2≤wr.heap.size)
 (hn:0<n) (hnr:n≤rest.size) (ht:t'.data.toList=rest.data.toList.drop n) (tk:Tok)
 (hsp:split rest.data.toList (ln,co)=pre [tk] (split (rest.data.toList.drop n) (adv (rest.data.toList.take n) (ln,co)))) (wa:World)
 (h1:w1=putB wa (w.heap.size+1) 161 (scan t' (adv (rest.data.toList.take n) (ln,co)).1 (adv (rest.data.toList.take n) (ln,co)).2)) (wb:World)
 (hg:wb.grownBy w2 ov.ownBlock) (ho:w2.ownsRow (w.heap.size+2) 165 4 ov' (toks.length+1) (toksCells (toks++[tk]))) (hwa:wr.grownBy wa none) (hwb:w1.grownBy wb none):
 SplitRel w s t'.size ov' w2∧t'.size<rest.size:=by
 have i:t'.size=rest.size-n:=(by rw[←length_data,ht];simp);have b:=adv_grow (rest.data.toList.take n) (ln,co);have c:(rest.data.toList.take n).length=n:=(by simp;omega);rw[c]at b
 have a:∀k,ov.ownBlock=some k→w.heap.size+2≤k:=fun k hk=>(HO.lt k hk).1
 have j:w1.heap.size=wa.heap.size:=(by rw[h1,putB_size]);have l:=hwa.size;have d:Blk w1 w.heap.size 63 #[.i 0,.i 0]:=(by rw[h1];exact(HBp.grown hwa (by simp)).far (by omega) _);have f:Blk w1 (w.heap.size+1) 161 (scan t' (adv (rest.data.toList.take n) (ln,co)).1 (adv (rest.data.toList.take n) (ln,co)).2):=(by rw[h1];exact(HBs.grown hwa (by simp)).put _);have g:Below w.heap.size w w1:=(by rw[h1];exact(HL.grown hwa (by omega) (by simp)).trans (putB_below _ _ _ _ (by omega)));refine⟨⟨t',_,_,toks++[tk],rfl,by simp;omega,by omega,by omega,?_,by simpa using ho,(d.grown hwb (by simp)).grown hg ?_,(f.grown hwb (by simp)).grown hg ?_,?_,?_⟩,by omega⟩
 ·
  unfold Hid;rw[HM,hsp,ht,pre_pre]
 ·
  intro h;have:=a _ h.symm;omega
 ·
  intro h;have:=a _ h.symm;omega
 ·
  have:=hwb.size;exact(g.grown hwb (by omega) (by simp)).grown hg (by omega) (fun k hk=>by have:=a k hk;omega)
 have:=hg.size;have:=hwb.size;omega
end
theorem post_ok(s:ByteArray)(w wr:World)(toks:List Tok)(ov:Value)(hr:lexRes s.data.toList= .ok toks)(hb:Below w.heap.size w wr)
 (ho:wr.ownsRow (w.heap.size+2) 165 4 ov toks.length (toksCells toks)):SplitPost s.data.toList w (.returned (.tuple #[ov,.agg #[.i 0,.i 0],.i 0])) wr:=by
 refine⟨hb,?_⟩;rw[hr];refine⟨ov,rfl,ho.1,?_⟩
 rcases ho.2 with h | ⟨g,cap,cur,h1,h2,h3⟩
 ·
  exact .inl h
 exact .inr ⟨g,cap,cur,h1,by omega,h3⟩
theorem post_err(s:ByteArray)(w wr:World)(ln co er:Nat)(hr:lexRes s.data.toList= .error (ln,co,er))(hb:Below w.heap.size w wr):
 SplitPost s.data.toList w (.returned (.tuple #[.sn,.agg #[.i ln,.i co],.i er])) wr:=by
 refine⟨hb,?_⟩;rw[hr]
theorem split_small(s:ByteArray)(w:World)(hs:s.size≤65536):
    Calls Tryz.prog 50 #[.string s] w (SplitPost s.data.toList w):=by
  have U:=hI (show lexRes s.data.toList=split s.data.toList (1,1)by unfold lexRes;rw[if_neg (by rw[length_data];omega)]);have hd:decide ((65536:Int)<s.size)=false:=(by simp;omega)
  go_in
  go_wp2_with fail
  go_step3
  go_wp2_with fail
  go_step3
  go_wp2;clear hd
  go_loopg [6] s.size (fun k ov wr=>SplitRel w s k ov wr)
  case atStart=>
    refine⟨s,1,1,[],rfl,by simp,by omega,by omega,(pre_nil _).symm,World.ownsRow_nil _ _ _ _,?_,?_,?_,by simp⟩
    · exact(Blk.new w _ _).alloc _
    · have:=Blk.new (w.alloc (.cells #[.i 0,.i 0] 63)) 161 (scan s 1 1)
      have e:(w.alloc (.cells #[.i 0,.i 0] 63)).heap.size=w.heap.size+1:=(by simp);rw[e]at this;exact this
    · exact((Below.refl _ _).alloc (Nat.le_refl _) _).alloc (by simp) _
  case round=>
    obtain⟨rest,a,b,q,rfl,F,G,H,B,aj,j,g,ak,I⟩:=hrel;have u:=hI aj;have C:=hI ak;clear aj ak;have d0:wr.cell? ⟨w.heap.size+1,0,none⟩=some (.string rest):=g.o.cell 0;have d1:wr.cell? ⟨w.heap.size+1,1,none⟩=some (.i a):=g.o.cell 1;have d2:wr.cell? ⟨w.heap.size+1,2,none⟩=some (.i b):=g.o.cell 2;have p0:wr.cell? ⟨w.heap.size,0,none⟩=some (.i 0):=j.o.cell 0;have p1:wr.cell? ⟨w.heap.size,1,none⟩=some (.i 0):=j.o.cell 1;have bh:wr.frozen? ⟨w.heap.size,0,none⟩=false:=j.o.frozen 0;have bi:wr.frozen? ⟨w.heap.size,1,none⟩=false:=j.o.frozen 1
    have bj:∀o,(wr.alloc o).cell? ⟨w.heap.size+1,0,none⟩=some (.string rest):=fun o=>(g.o.alloc o).cell 0
    have bk:∀o,(wr.alloc o).cell? ⟨w.heap.size+1,1,none⟩=some (.i a):=fun o=>(g.o.alloc o).cell 1
    have bl:∀o,(wr.alloc o).cell? ⟨w.heap.size+1,2,none⟩=some (.i b):=fun o=>(g.o.alloc o).cell 2
    by_cases hz:rest.size=0
    · have HZ:=hI (show rest.data.toList=[]from List.eq_nil_of_length_eq_zero (by simpa using hz))
      have am:rest.toList.isEmpty=true:=(by rw[isEmpty_data,HZ.o];rfl);have bm:rest.toList=[]:=(by simpa using am);clear hz;go_wp2_with fail;have d:=hI (show lexRes s.data.toList= .ok q by rw[U.o,B.o,HZ.o,split_nil];simp[pre]);rw[Exit.noGoto_ret];refine bodyPost_ret (v:= .tuple #[u6,.agg #[.i 0,.i 0],.i 0]) (by simp[results,Tryz.results50,go_sem,p0,p1]) rfl ?_;rw[j.o.setCell_eq,(j.o.put _).setCell_eq,putB_putB];exact post_ok s w _ q u6 d.o (C.o.trans (putB_below _ _ _ _ (Nat.le_refl _))) (own_putB u.o (by omega) _ _)
    have h0:0<rest.size:=by omega
    have am:rest.toList.isEmpty=false:=by
      rw[isEmpty_data]
      cases hh:rest.data.toList with
      | nil=>exact absurd (by have:=congrArg List.length hh;simpa using this) hz
      | cons _ _=>rfl
    clear hz;have m:=hI (rest_cons rest h0)
    by_cases hbk:isBlank rest[0]=true
    · have ax:(((cls rest[0]:Nat):Int)==1)=true:=by
        have:=cls_blank rest[0];rw[hbk]at this
        simp at this
        rw[this];rfl
      have D:=hI (show split rest.data.toList (a,b)=split (rest.data.toList.drop 1) (step1 (a,b) rest[0])by rw[m.o,split_blank _ _ _ hbk];simp);clear hbk
      go_wp2_with (go_at_call 88;refine(class_any _ _).mono ?_;rintro e w' ⟨rfl,rfl⟩)
      refine(skip_at (w.heap.size+1) rest a b 1 1 rfl _ (g.o.alloc _) (by omega) (by omega) (by omega) (by omega)).mono ?_;rintro e w1 ⟨out,x,rfl,p,l,c⟩;have y:=hI c;have z:=hI l;clear c l p;go_wp2_with fail;have d:=rel_skip F G H B.o u.o j.o g.o C.o I (n:=1) (by omega) (by omega) z.o (by rw[D.o,m.o];rfl) (.cells #[.i a,.i b] 63);rw[←y.o]at d
      go_roundg x.size
      case measure=>exact d.2
      case rel=>exact d.1
    have ax:(((cls rest[0]:Nat):Int)==1)=false:=by
      have:=cls_blank rest[0];rw[show isBlank rest[0]=false by simpa using hbk]at this
      simp at this
      rw[beq_eq_false_iff_ne];omega
    by_cases hsy:isSym rest[0]=true
    · have ay:(((cls rest[0]:Nat):Int)==6)=true:=by
        have:=cls_sym rest[0];rw[hsy]at this
        simp at this
        rw[this];rfl
      have D:=hI (show split rest.data.toList (a,b)=pre [⟨3,[rest[0]],a,b⟩] (split (rest.data.toList.drop 1) (step1 (a,b) rest[0]))by rw[m.o,split_sym _ _ _ hsy];simp);clear hsy hbk
      go_wp2_with (go_at_call 88;refine(class_any _ _).mono ?_;rintro e w' ⟨rfl,rfl⟩)
      have V:(wr.alloc (.cells #[.i a,.i b] 63)).cell? ⟨wr.heap.size,0,none⟩=some (.i a):=(Blk.new wr _ _).cell 0;have W:(wr.alloc (.cells #[.i a,.i b] 63)).cell? ⟨wr.heap.size,1,none⟩=some (.i b):=(Blk.new wr _ _).cell 1;obtain⟨X,J,L,M,N⟩:=info_parts Tryz.infoTok;have Y:=hI (show u6.ownBlock≠some wr.heap.size from fun h=>by have:=(u.o.lt _ h).2;omega)
      go_region_held3 (fun w'=>w'.cell? ⟨wr.heap.size,0,none⟩=some (.i a)∧w'.cell? ⟨wr.heap.size,1,none⟩=some (.i b))
        (first
          | exact⟨V,W⟩
          | exact⟨E.o.cell 0,E.o.cell 1⟩
          | exact⟨(E.o.alloc _).cell 0,(E.o.alloc _).cell 1⟩
          | exact⟨QB.o.cell 0,QB.o.cell 1⟩)
        (first
          | (go_at_call 89
             refine(skip_at (w.heap.size+1) rest a b 1 1 rfl _ (by exact g.o.alloc _) (by omega) (by omega) (by omega) (by omega)).mono ?_;rintro e w1 ⟨out,x,rfl,p,l,c⟩;have y:=hI c;have z:=hI l;have O:=hI (mk_of_data _ _ p);have Z:=hI (show w1.ownsRow (w.heap.size+2) 165 4 u6 q.length (toksCells q)by rw[c];exact own_putB (u.o.alloc _) (by omega) _ _);have E:=hI (show Blk w1 wr.heap.size 63 #[.i a,.i b]by rw[c];exact(Blk.new wr _ _).far (by omega) _);have az:wr.heap.size+1≤w1.heap.size:=(by rw[c,putB_size];simp)
             clear c l p)
          | (refine step_append_lies _ (by rfl) _ _ _ (by rfl) (w.heap.size+2) 165 X _ 4 40 Tryz.underlying117 J L M N rfl (by omega) u6 q.length (toksCells q) (by rfl) (Z.o.alloc _)
               ⟨w1.heap.size,0,none⟩ 1 1 [.i 3,.string out,.i a,.i b] (by rfl) (by rfl)
               (World.news_of_block (cs:=#[.i 3,.string out,.i a,.i b]) (t:=165) (fr:=(0,0)) (heap_alloc_new w1 _)) (by simp[Value.oneCell'])
               (by omega) (by unfold maxLen;omega) (by omega) (by simp;omega) (w1.heap.size+1) (by simp) ?_
             intro gg cap w2 hown2 hgrow hat hlt;have aa:=hI hown2;have ab:=hI hgrow;have QB:=hI (show Blk w2 wr.heap.size 63 #[.i a,.i b]from(E.o.alloc _).grown hgrow (Ne.symm Y.o))
             clear hown2 hgrow hat hlt))
      clear J L M N;go_wp2_with fail
      have d:=rel_tok F G H B.o u.o j.o g.o C.o I (n:=1) (by omega) (by omega) z.o ⟨3,[rest[0]],a,b⟩ (by rw[D.o,m.o];rfl) _ y.o _ ab.o
        (by have h:=aa.o;rw[O.o,m.o]at h;simpa [toksCells,tokCells]using h) (only_drew (World.grownBy_alloc _ _ _)) (World.grownBy_alloc _ _ _)
      go_roundg x.size
      case measure=>exact d.2
      case rel=>exact d.1
    have ay:(((cls rest[0]:Nat):Int)==6)=false:=by
      have:=cls_sym rest[0];rw[show isSym rest[0]=false by simpa using hsy]at this
      simp at this
      rw[beq_eq_false_iff_ne];omega
    have P:isBlank rest[0]=false:=(by simpa using hbk);have Q:isSym rest[0]=false:=(by simpa using hsy);clear hbk hsy
    by_cases hru:inRun rest[0]=true
    · have a0:(((cls rest[0]:Nat):Int)==0)=false:=by
        have:=cls_other rest[0];rw[hru]at this
        simp at this
        rw[beq_eq_false_iff_ne];omega
      obtain⟨n,R⟩:=eX ((rest.data.toList.takeWhile inRun).length);have ac:=take_takeWhile inRun rest.data.toList;rw[←R]at ac;have a1:0<n:=(by rw[R,m.o,List.takeWhile_cons,hru];simp);have a2:n≤rest.size:=(by rw[R,←length_data];exact takeWhile_le _ _);have ao:=hI ac;have Y:=hI R
      have ap:=hI (show rest.data.toList.take n=rest[0]::(rest.data.toList.drop 1).takeWhile inRun by
        rw[ao.o.1,m.o,List.takeWhile_cons,hru];rfl)
      have a3:=hI (show rest.data.toList.drop n=(rest.data.toList.drop 1).dropWhile inRun by
        rw[ao.o.2,m.o,List.dropWhile_cons,hru];rfl)
      have a4:=hI (show(kindOf (rest.data.toList.take n)).2=0→split rest.data.toList (a,b)=pre [⟨(kindOf (rest.data.toList.take n)).1,rest.data.toList.take n,a,b⟩] (split (rest.data.toList.drop n) (adv (rest.data.toList.take n) (a,b)))by
        intro hk;rw[ap.o]at hk ⊢;rw[a3.o];conv=>lhs;rw[m.o,split_run _ _ _ hru hk])
      have a5:=hI (show(kindOf (rest.data.toList.take n)).2≠0→split rest.data.toList (a,b)= .error (a,b,(kindOf (rest.data.toList.take n)).2)by
        intro hk;rw[ap.o]at hk ⊢;conv=>lhs;rw[m.o,split_run_err _ _ _ hru hk])
      clear R ac hru P Q
      go_wp2_with (go_at_call 88;refine(class_any _ _).mono ?_;rintro e w' ⟨rfl,rfl⟩)
      refine(run_any (w.heap.size+1) rest a b _ (g.o.alloc _) (by unfold maxLen;omega)).mono ?_;rw[←Y.o];rintro e w' ⟨rfl,rfl⟩;go_wp2_with fail;refine(skip_at (w.heap.size+1) rest a b n _ rfl _ (g.o.alloc _) (by omega) (by omega) (by omega) (by omega)).mono ?_;rintro e w1 ⟨out,x,rfl,p,l,c⟩;have a6:out.size≤maxLen:=(by rw[←length_data,p];unfold maxLen;simp;omega);have y:=hI c;have z:=hI l;have O:=hI p;have Z:=hI (show w1.ownsRow (w.heap.size+2) 165 4 u6 q.length (toksCells q)by rw[c];exact own_putB (u.o.alloc _) (by omega) _ _);have E:=hI (show Blk w1 wr.heap.size 63 #[.i a,.i b]by rw[c];exact(Blk.new wr _ _).far (by omega) _);have S:=hI (show Blk w1 w.heap.size 63 #[.i 0,.i 0]by rw[c];exact(j.o.alloc _).far (by omega) _);have az:wr.heap.size+1≤w1.heap.size:=(by rw[c,putB_size];simp);have a7:=hI (show Below w.heap.size w w1 by rw[c];exact(C.o.alloc (by omega) _).trans (putB_below _ _ _ _ (by omega)));clear c l p;go_wp2_with fail;refine(kind_any out _ a6).mono ?_
      obtain⟨kd,r,ad⟩:∃kd r,kindOf out.data.toList=(kd,r):=⟨_,_,rfl⟩
      have HK:=hI ad;rw[ad];rintro e w' ⟨rfl,nd,rfl⟩;clear ad;have V:w1.cell? ⟨wr.heap.size,0,none⟩=some (.i a):=E.o.cell 0;have W:w1.cell? ⟨wr.heap.size,1,none⟩=some (.i b):=E.o.cell 1;have ae:w1.cell? ⟨w.heap.size,0,none⟩=some (.i 0):=S.o.cell 0;have af:w1.cell? ⟨w.heap.size,1,none⟩=some (.i 0):=S.o.cell 1;have a9:w1.frozen? ⟨w.heap.size,0,none⟩=false:=S.o.frozen 0;have ba:w1.frozen? ⟨w.heap.size,1,none⟩=false:=S.o.frozen 1
      by_cases her:r=0
      · have bb:((r:Int)!=0)=false:=by rw[her];rfl
        have HE:=hI her;clear her;obtain⟨X,J,L,M,N⟩:=info_parts Tryz.infoTok
        go_wp2_with (at_builtin;refine wpList_append_lies _ rfl _ _ _ rfl (w.heap.size+2) 165 X _ 4 40 Tryz.underlying117 J L M N rfl (by omega) u6 q.length (toksCells q) rfl (by exact Z.o.alloc _) ⟨w1.heap.size,0,none⟩ 1 1 [.i kd,.string out,.i a,.i b] rfl rfl (World.news_of_block (cs:=#[.i kd,.string out,.i a,.i b]) (t:=165) (fr:=(0,0)) (heap_alloc_new w1 _)) (by simp[Value.oneCell']) (by omega) (by unfold maxLen;omega) (by omega) (by simp;omega) (w1.heap.size+1) (by simp) ?_)
        intro gg cap w2 hown2 hgrow hat hlt;have aa:=hI hown2;have ab:=hI hgrow;clear hown2 hgrow hat hlt J L M N;go_wp2_with fail;have ag:=hI (show kindOf (rest.data.toList.take n)=(kd,r)by rw[←O.o];exact HK.o)
        have d:=rel_tok F G H B.o u.o j.o g.o C.o I (n:=n) a1 a2 z.o ⟨kd,rest.data.toList.take n,a,b⟩ (by have h:=a4.o;rw[ag.o]at h;exact h HE.o) _ y.o _ ab.o
          (by have h:=aa.o;rw[mk_of_data _ _ O.o]at h;simpa [toksCells,tokCells]using h) (World.grownBy_alloc _ _ _) (only_drewN_alloc w1 nd _ _)
        go_roundg x.size
        case measure=>exact d.2
        case rel=>exact d.1
      · have bb:((r:Int)!=0)=true:=by rw[bne_iff_ne];omega
        have ag:=hI (show kindOf (rest.data.toList.take n)=(kd,r)by rw[←O.o];exact HK.o)
        have bd:=hI (show lexRes s.data.toList= .error (a,b,r)by
          have h:=a5.o;rw[ag.o]at h
          rw[U.o,B.o,h her];rfl)
        clear her;go_wp2_with fail
        go_region
        go_wp2_with fail;rw[Exit.noGoto_ret];refine bodyPost_ret (v:= .tuple #[.sn,.agg #[.i a,.i b],.i r]) (by simp[results,Tryz.results50,go_sem,ae,af]) rfl ?_;exact post_err s w _ a b r bd.o (((below_drewN a7.o _).setCell (Nat.le_refl _) _).setCell (Nat.le_refl _) _)
    have T:inRun rest[0]=false:=by simpa using hru
    have a0:(((cls rest[0]:Nat):Int)==0)=true:=by
      have:=cls_other rest[0];rw[T,P,Q]at this
      simp at this
      rw[this];rfl
    by_cases h35:rest[0]=35
    · have ah:((rest[0].toNat:Int)!=35)=false:=by rw[h35];rfl
      have D:=hI (show split rest.data.toList (a,b)=split (rest.data.toList.dropWhile (· !=10)) (adv (rest.data.toList.takeWhile (· !=10)) (a,b))by
        rw[m.o,h35,split_hash];rfl)
      clear P Q hru T h35
      rcases indexByte_spec rest.data.toList 10 with⟨h1,h2⟩ | ⟨h1,i,h2,h3,h4,h5,h6⟩
      · have ai:=hI (show split rest.data.toList (a,b)=split (rest.data.toList.drop rest.size) (adv (rest.data.toList.take rest.size) (a,b))by
          rw[D.o,(takeWhile_not_mem _ _ h1).1,(takeWhile_not_mem _ _ h1).2,←length_data rest,List.drop_length,List.take_length])
        have bn:Lib.indexByte rest.data.toList 10<0:=(by omega);clear h1 h2
        go_wp2_with (first | (go_at_call 88;refine(class_any _ _).mono ?_;rintro e w' ⟨rfl,rfl⟩) | (go_at_call 90;refine(sIndexByte _ _ _).mono ?_;rintro e w' ⟨rfl,rfl⟩))
        refine(skip_at (w.heap.size+1) rest a b rest.size _ rfl _ (g.o.alloc _) (by omega) (by omega) (by omega) (by omega)).mono ?_;rintro e w1 ⟨out,x,rfl,p,l,c⟩;have y:=hI c;have z:=hI l;clear c l p;go_wp2_with fail;have d:=rel_skip F G H B.o u.o j.o g.o C.o I (n:=rest.size) (by omega) (by omega) z.o ai.o (.cells #[.i a,.i b] 63);rw[←y.o]at d
        go_roundg x.size
        case measure=>exact d.2
        case rel=>exact d.1
      · have ai:=hI (show split rest.data.toList (a,b)=split (rest.data.toList.drop i) (adv (rest.data.toList.take i) (a,b))by rw[D.o,h4,h5])
        have bo:i<rest.size:=by simpa using h3
        have bp:0<i:=by
          rcases Nat.eq_zero_or_pos i with h | h
          · subst h
            rw[List.drop_zero,m.o]at h6
            have:rest[0]=10:=by injection h6
            rw[this]at ah;exact absurd ah (by decide)
          · exact h
        clear h1 h3 h4 h5 h6
        go_wp2_with (first | (go_at_call 88;refine(class_any _ _).mono ?_;rintro e w' ⟨rfl,rfl⟩) | (go_at_call 90;refine(sIndexByte _ _ _).mono ?_;rintro e w' ⟨rfl,rfl⟩))
        refine(skip_at (w.heap.size+1) rest a b i _ rfl _ (g.o.alloc _) (by omega) (by omega) (by omega) (by omega)).mono ?_;rintro e w1 ⟨out,x,rfl,p,l,c⟩;have y:=hI c;have z:=hI l;clear c l p h2;go_wp2_with fail;have d:=rel_skip F G H B.o u.o j.o g.o C.o I (n:=i) (by omega) (by omega) z.o ai.o (.cells #[.i a,.i b] 63);rw[←y.o]at d
        go_roundg x.size
        case measure=>exact d.2
        case rel=>exact d.1
    have ah:((rest[0].toNat:Int)!=35)=true:=by
      rw[bne_iff_ne];intro h;exact h35 (UInt8.toNat_inj.1 (show rest[0].toNat=35 by omega))
    have D:=hI (show split rest.data.toList (a,b)= .error (a,b,3)by rw[m.o,split_bad _ _ _ P Q T h35]);have d:=hI (show lexRes s.data.toList= .error (a,b,3)by rw[U.o,B.o,D.o];rfl);clear P Q hru T h35;have V:(wr.alloc (.cells #[.i a,.i b] 63)).cell? ⟨wr.heap.size,0,none⟩=some (.i a):=(Blk.new wr _ _).cell 0;have W:(wr.alloc (.cells #[.i a,.i b] 63)).cell? ⟨wr.heap.size,1,none⟩=some (.i b):=(Blk.new wr _ _).cell 1
    have ae:∀o,(wr.alloc o).cell? ⟨w.heap.size,0,none⟩=some (.i 0):=fun o=>(j.o.alloc o).cell 0
    have af:∀o,(wr.alloc o).cell? ⟨w.heap.size,1,none⟩=some (.i 0):=fun o=>(j.o.alloc o).cell 1
    have a9:∀o,(wr.alloc o).frozen? ⟨w.heap.size,0,none⟩=false:=fun o=>(j.o.alloc o).frozen 0
    have ba:∀o,(wr.alloc o).frozen? ⟨w.heap.size,1,none⟩=false:=fun o=>(j.o.alloc o).frozen 1
    go_wp2_with (go_at_call 88;refine(class_any _ _).mono ?_;rintro e w' ⟨rfl,rfl⟩)
    go_region
    go_wp2_with fail;rw[Exit.noGoto_ret];refine bodyPost_ret (v:= .tuple #[.sn,.agg #[.i a,.i b],.i 3]) (by simp[results,Tryz.results50,go_sem,ae,af]) rfl ?_;exact post_err s w _ a b 3 d.o ((((C.o.alloc (by omega) _).setCell (Nat.le_refl _) _).setCell (Nat.le_refl _) _).drew)
theorem split_any(s:ByteArray)(w:World)(hs:s.size≤maxLen):Calls Tryz.prog 50 #[.string s] w (SplitPost s.data.toList w):=by
 by_cases h:s.size≤65536
 ·
  exact split_small s w h
 unfold maxLen at hs;have HF:=hI (show lexRes s.data.toList= .error (0,0,5)by unfold lexRes;rw[if_pos (by rw[length_data];omega)]);have hd:decide ((65536:Int)<s.size)=true:=(by simp;omega)
 go_in
 go_wp2_with fail
 go_step3
 go_wp2_with fail;rw[Exit.noGoto_ret];refine bodyPost_ret (v:= .tuple #[.sn,.agg #[.i 0,.i 0],.i 5]) (by simp[results,Tryz.results50,go_sem]) rfl ?_;exact post_err s w _ 0 0 5 HF.o ((Below.refl _ _).alloc (Nat.le_refl _) _)
end Go.Proofs.YtgcjmhjjpbcfmaaGreatDoor
namespace Go.Fl
open Go.RowKit
def Rd(w:World)(size:Nat)(A:Option Addr)(n:Nat)(xs:List Value):Prop:=
  xs.length=n*size∧(0<n→∃b off,A=some ⟨b,off,none⟩∧b<w.heap.size∧∀j u,xs[j]? =some u→w.cell? ⟨b,off+j,none⟩=some u)
section
variable {w w':World} {size n:Nat} {A:Option Addr} {xs:List Value}
theorem Rd.at_(h:Rd w size A n xs)(hn:0<n):∃b off,A=some ⟨b,off,none⟩∧b<w.heap.size∧∀j u,xs[j]? =some u→w.cell? ⟨b,off+j,none⟩=some u:=h.2 hn
theorem Rd.keep(h:Rd w size A n xs)(hs:w.heap.size≤w'.heap.size)(hk:∀b off,b<w.heap.size→w'.cell? ⟨b,off,none⟩=w.cell? ⟨b,off,none⟩):Rd w' size A n xs:=
 ⟨h.1,fun hn=>by
  obtain⟨b,off,e,hb,hc⟩:=h.2 hn
  exact⟨b,off,e,by omega,fun j u hu=>(hk _ _ hb).trans (hc j u hu)⟩⟩
theorem Rd.below(h:Rd w size A n xs)(hb:Below w.heap.size w w'):Rd w' size A n xs:=h.keep hb.size fun _ _ hp=>hb.cell (p:=⟨_,_,none⟩) hp
theorem Rd.drewN(h:Rd w size A n xs)(k:Nat):Rd (w.drewN k) size A n xs:=h
theorem Rd.alloc(h:Rd w size A n xs)(o:Obj):Rd (w.alloc o) size A n xs:=h.keep (by simp) fun b off hp=>World.cell?_alloc_lt w o ⟨b,off,none⟩ hp
theorem Rd.none_(w:World)(size:Nat):Rd w size none 0 []:=⟨by simp,fun h=>absurd h (by omega)⟩
theorem Rd.of_own{base:Nat}{e:TypeId}{v:Value}(h:w.ownsRow base e size v n xs):∃A c,v= .l A n c∧Rd w size A n xs∧n≤c∧c≤maxLen:=by
 rcases h.2 with⟨rfl,rfl⟩ | ⟨g,cap,cur,rfl,hb,hg,hnc,hcm,_,_⟩
 ·
  have:=h.1
  simp at this
  subst this;exact⟨none,0,rfl,Rd.none_ w size,by omega,by unfold maxLen;omega⟩
 refine⟨_,cap,rfl,⟨h.1,fun _=>⟨g,0,rfl,(Array.getElem?_eq_some_iff.1 hg).1,fun j u hu=>?_⟩⟩,hnc,hcm⟩;have:=h.cells (g:=g) rfl j u hu;rw[Addr.add_lit]at this;exact this
end
end Go.Fl
namespace Go.Proofs.YtgcjmhjjpbcfmaaGreatDoor
open Go.RowKit Go.Fl Go.Fl.Lx
theorem rtoks_at(l:List Tok)(k:Nat)(t:Tok)(h:l[k]? =some t)(j:Nat)(hj:j<4):(rtoksCells l)[k*4+j]? =(rtokCells t)[j]? :=by
 induction l generalizing k with
 | nil=>simp at h
 | cons t' l ih=>
  have e:rtoksCells (t'::l)=rtokCells t'++rtoksCells l:=rfl;have hl:(rtokCells t').length=4:=rfl;rw[e]
  cases k with
  | zero=>
   simp at h
   subst h
   rw[Nat.zero_mul,Nat.zero_add,List.getElem?_append_left (by omega)]
  | succ k=>
   simp at h
   rw[List.getElem?_append_right (by omega),←ih k h,hl]
   congr 1;omega
theorem toks_at(l:List Tok)(k:Nat)(t:Tok)(h:l[k]? =some t)(j:Nat)(hj:j<4):(toksCells l)[k*4+j]? =(tokCells t)[j]? :=rtoks_at l k t h j hj
end Go.Proofs.YtgcjmhjjpbcfmaaGreatDoor
namespace Go.Fl.Lx
end Go.Fl.Lx
namespace Go.Proofs.YtgcjmhjjpbcfmaaGreatDoor
open Go.RowKit Go.Fl Go.Fl.Lx
def kws:List (List UInt8):=[[115,116,97,116,101],[112,97,114,97,109],[105,110],[109,111,100,101],[119,104,101,110],[114,105,115,101,115],[102,97,108,108,115],[103,111,116,111],[119,105,116,104],[116,105,109,101],[101,120,112],[108,111,103],[115,105,110],[99,111,115],[115,113,114,116]]
def kwP(l:List UInt8):Bool:=kws.contains l
theorem beq_list_t(s:ByteArray)(l:List UInt8)(h:s.data.toList=l):(s.toList==l)=true:=by rw[ByteArray.toList_eq,h];simp
theorem beq_list_f(s:ByteArray)(l:List UInt8)(h:s.data.toList≠l):(s.toList==l)=false:=by rw[ByteArray.toList_eq,beq_eq_false_iff_ne];exact h
theorem keyword_any(s:ByteArray)(w:World):
 Calls Tryz.prog 126 #[.string s] w fun e w'=>e= .returned (.b (kwP s.data.toList))∧w=w':=by
 by_cases h0:s.data.toList=[115,116,97,116,101]
 ·
  have a:=hI (show kwP s.data.toList=true by rw[h0];decide);have b:=beq_list_t s _ h0;clear h0
  go_in
  go_wp2;go_ret;exact⟨ret_bool (by rw[a.o]),rfl⟩
 have c:=hI h0;have b:=beq_list_f s _ h0;clear h0
 by_cases h1:s.data.toList=[112,97,114,97,109]
 ·
  have a:=hI (show kwP s.data.toList=true by rw[h1];decide);have d:=beq_list_t s _ h1;clear h1
  go_in
  go_wp2;go_ret;exact⟨ret_bool (by rw[a.o]),rfl⟩
 have g:=hI h1;have d:=beq_list_f s _ h1;clear h1
 by_cases h2:s.data.toList=[105,110]
 ·
  have a:=hI (show kwP s.data.toList=true by rw[h2];decide);have i:=beq_list_t s _ h2;clear h2
  go_in
  go_wp2;go_ret;exact⟨ret_bool (by rw[a.o]),rfl⟩
 have j:=hI h2;have i:=beq_list_f s _ h2;clear h2
 by_cases h3:s.data.toList=[109,111,100,101]
 ·
  have a:=hI (show kwP s.data.toList=true by rw[h3];decide);have k:=beq_list_t s _ h3;clear h3
  go_in
  go_wp2;go_ret;exact⟨ret_bool (by rw[a.o]),rfl⟩
 have l:=hI h3;have k:=beq_list_f s _ h3;clear h3
 by_cases h4:s.data.toList=[119,104,101,110]
 ·
  have a:=hI (show kwP s.data.toList=true by rw[h4];decide);have m:=beq_list_t s _ h4;clear h4
  go_in
  go_wp2;go_ret;exact⟨ret_bool (by rw[a.o]),rfl⟩
 have n:=hI h4;have m:=beq_list_f s _ h4;clear h4
 by_cases h5:s.data.toList=[114,105,115,101,115]
 ·
  have a:=hI (show kwP s.data.toList=true by rw[h5];decide);have o:=beq_list_t s _ h5;clear h5
  go_in
  go_wp2;go_ret;exact⟨ret_bool (by rw[a.o]),rfl⟩
 have p:=hI h5;have o:=beq_list_f s _ h5;clear h5
 by_cases h6:s.data.toList=[102,97,108,108,115]
 ·
  have a:=hI (show kwP s.data.toList=true by rw[h6];decide);have q:=beq_list_t s _ h6;clear h6
  go_in
  go_wp2;go_ret;exact⟨ret_bool (by rw[a.o]),rfl⟩
 have r:=hI h6;have q:=beq_list_f s _ h6;clear h6
 by_cases h7:s.data.toList=[103,111,116,111]
 ·
  have a:=hI (show kwP s.data.toList=true by rw[h7];decide);have t:=beq_list_t s _ h7;clear h7
  go_in
  go_wp2;go_ret;exact⟨ret_bool (by rw[a.o]),rfl⟩
 have u:=hI h7;have t:=beq_list_f s _ h7;clear h7
 by_cases h8:s.data.toList=[119,105,116,104]
 ·
  have a:=hI (show kwP s.data.toList=true by rw[h8];decide);have v:=beq_list_t s _ h8;clear h8
  go_in
  go_wp2;go_ret;exact⟨ret_bool (by rw[a.o]),rfl⟩
 have x:=hI h8;have v:=beq_list_f s _ h8;clear h8
 by_cases h9:s.data.toList=[116,105,109,101]
 ·
  have a:=hI (show kwP s.data.toList=true by rw[h9];decide);have y:=beq_list_t s _ h9;clear h9
  go_in
  go_wp2;go_ret;exact⟨ret_bool (by rw[a.o]),rfl⟩
 have z:=hI h9;have y:=beq_list_f s _ h9;clear h9
 by_cases h10:s.data.toList=[101,120,112]
 ·
  have a:=hI (show kwP s.data.toList=true by rw[h10];decide);have B:=beq_list_t s _ h10;clear h10
  go_in
  go_wp2;go_ret;exact⟨ret_bool (by rw[a.o]),rfl⟩
 have C:=hI h10;have B:=beq_list_f s _ h10;clear h10
 by_cases h11:s.data.toList=[108,111,103]
 ·
  have a:=hI (show kwP s.data.toList=true by rw[h11];decide);have D:=beq_list_t s _ h11;clear h11
  go_in
  go_wp2;go_ret;exact⟨ret_bool (by rw[a.o]),rfl⟩
 have E:=hI h11;have D:=beq_list_f s _ h11;clear h11
 by_cases h12:s.data.toList=[115,105,110]
 ·
  have a:=hI (show kwP s.data.toList=true by rw[h12];decide);have F:=beq_list_t s _ h12;clear h12
  go_in
  go_wp2;go_ret;exact⟨ret_bool (by rw[a.o]),rfl⟩
 have G:=hI h12;have F:=beq_list_f s _ h12;clear h12
 by_cases h13:s.data.toList=[99,111,115]
 ·
  have a:=hI (show kwP s.data.toList=true by rw[h13];decide);have H:=beq_list_t s _ h13;clear h13
  go_in
  go_wp2;go_ret;exact⟨ret_bool (by rw[a.o]),rfl⟩
 have I:=hI h13;have H:=beq_list_f s _ h13;clear h13
 by_cases h14:s.data.toList=[115,113,114,116]
 ·
  have a:=hI (show kwP s.data.toList=true by rw[h14];decide);have J:=beq_list_t s _ h14;clear h14
  go_in
  go_wp2;go_ret;exact⟨ret_bool (by rw[a.o]),rfl⟩
 have L:=hI h14;have J:=beq_list_f s _ h14;clear h14;have a:=hI (show kwP s.data.toList=false by simp[kwP,kws,c.o,g.o,j.o,l.o,n.o,p.o,r.o,u.o,x.o,z.o,C.o,E.o,G.o,I.o,L.o])
 go_in
 go_wp2;go_ret;exact⟨ret_bool (by rw[a.o]),rfl⟩
def nameP(l:List UInt8):Bool:=wordP l&&decide (l.length≤20)&& !kwP l
theorem name_any(s:ByteArray)(w:World)(hs:s.size≤maxLen):
 Calls Tryz.prog 103 #[.string s] w fun e w'=>e= .returned (.b (nameP s.data.toList))∧w=w':=by
 have b:=hI (show nameP s.data.toList=(wordP s.data.toList&&decide (s.size≤20)&& !kwP s.data.toList)by unfold nameP;rw[length_data]);have c:=hs;unfold maxLen at c
 by_cases a:wordP s.data.toList=true
 ·
  by_cases hl:s.size≤20
  ·
   go_in
   go_wp2_with (first | (go_at_call 124;refine(word_any _ _ hs).mono ?_;rintro e w' ⟨rfl,rfl⟩) | (go_at_call 126;refine(keyword_any _ _).mono ?_;rintro e w' ⟨rfl,rfl⟩))
   go_ret;exact⟨ret_bool (by rw[b.o];simp[a,hl]),rfl⟩
  have d:decide ((s.size:Int)≤20)=false:=by simp;omega
  go_in
  go_wp2_with (first | (go_at_call 124;refine(word_any _ _ hs).mono ?_;rintro e w' ⟨rfl,rfl⟩) | (go_at_call 126;refine(keyword_any _ _).mono ?_;rintro e w' ⟨rfl,rfl⟩))
  go_ret;exact⟨ret_bool (by rw[b.o];simp[hl]),rfl⟩
 have a:wordP s.data.toList=false:=by simpa using a
 go_in
 go_wp2_with (first | (go_at_call 124;refine(word_any _ _ hs).mono ?_;rintro e w' ⟨rfl,rfl⟩) | (go_at_call 126;refine(keyword_any _ _).mono ?_;rintro e w' ⟨rfl,rfl⟩))
 go_ret;exact⟨ret_bool (by rw[b.o];simp[a]),rfl⟩
end Go.Proofs.YtgcjmhjjpbcfmaaGreatDoor
namespace Go.Fl
open Go.RowKit
section
variable {P:Program} (w:World)
theorem run_append_rd(base:Nat)(t ty e:TypeId)(i:TypeInfo)(z:Value)(size bytes:Nat)(ht:P.underlying t=some (.slice e))(hi:P.info? e=some i)(hz:i.zero=some z)
 (hsize:i.size=size) (hby:i.bytes=bytes) (hzs:z.cells.size=size) (hsz:0<size)
 (v:Value) (n:Nat) (xs:List Value) (hown:w.ownsRow base e size v n xs) (A:Option Addr) (m c:Nat) (hc:A=none→c=0) (news:List Value) (hr:Rd w size A m news)
 (h1:∀u∈news,u.oneCell'=true) (h63:n+m≤maxLen) (hbytes:(n+m)*bytes≤140737488355328) (hbase:base≤w.heap.size):
 ∃v' w',(Builtin.append_ #[t,t] ty #[v,.l A m c]).run P w= .ok v' w'∧w'.ownsRow base e size v' (n+m) (xs++news)∧w.grownBy w' v.ownBlock:=by
 cases A with
 | none=>
  have f:m=0:=by
   rcases Nat.eq_zero_or_pos m with h | h
   ·
    exact h
   obtain⟨b,g,a,_⟩:=hr.2 h;cases a
  subst f;have d:news=[]:=List.eq_nil_of_length_eq_zero (by simpa using hr.1);subst d
  have:=hc rfl;subst this
  exact⟨v,w,run_append_owned_none (P:=P) w base t ty e i size ht hi v n xs hown,by simpa using hown,World.grownBy.refl w _⟩
 | some ad=>
  have k:∀j u,news[j]? =some u→w.cell? (ad.add j)=some u:=by
   intro j u hu
   rcases Nat.eq_zero_or_pos m with h0 | h0
   ·
    subst h0;have d:news=[]:=List.eq_nil_of_length_eq_zero (by simpa using hr.1);subst d
    simp at hu
   obtain⟨b,g,h,_,l⟩:=hr.2 h0;injection h with h;subst h;rw[Addr.add_lit];exact l j u hu
  obtain⟨v',w',o,a,p,_⟩:=run_append_own_at (P:=P) w base t ty e i z size bytes ht hi hz hsize hby hzs hsz v n xs hown ad m c news hr.1 k h1 h63 hbytes hbase;exact⟨v',w',o,a,p⟩
theorem wpList_append_rd{ops:Array Oper}{rest:List Oper}{o:Oper}{a:Act}{Q:Exit→Act→World→Prop}(hw:Region.wanted o (yielded ops a.tmps)=true)(s x:Operand)(t:TypeId)
 (ho:o.op= .call {callee:= .builtin .append,args:=#[s,x],argTypes:=#[t,t]})
 (base:Nat) (e:TypeId) (i:TypeInfo) (z:Value) (size bytes:Nat) (ht:P.underlying t=some (.slice e)) (hi:P.info? e=some i) (hz:i.zero=some z)
 (hsize:i.size=size) (hby:i.bytes=bytes) (hzs:z.cells.size=size) (hsz:0<size)
 (v:Value) (n:Nat) (xs:List Value) (hs:a.eval s=v) (hown:w.ownsRow base e size v n xs)
 (A:Option Addr) (m c:Nat) (hc:A=none→c=0) (news:List Value) (hx:a.eval x= .l A m c) (hr:Rd w size A m news) (h1:∀u∈news,u.oneCell'=true)
 (h63:n+m≤maxLen) (hbytes:(n+m)*bytes≤140737488355328) (hbase:base≤w.heap.size)
 (h:∀v' w',w'.ownsRow base e size v' (n+m) (xs++news)→w.grownBy w' v.ownBlock→wpList P ops Q rest (a.put o.dst v') w'):wpList P ops Q (o::rest) a w:=by
 refine BigFrame.wpList_want hw fun K hK=>?_
 obtain⟨v',w',b,d,f⟩:=run_append_rd (P:=P) w base t o.type e i z size bytes ht hi hz hsize hby hzs hsz v n xs hown A m c hc news hr h1 h63 hbytes hbase;unfold Oper.wp execOp;simp only[ho,resolve,invoke,builtin,Sem.run_bind,Sem.run_pure,Result.andThen_ok,List.map_toArray,List.map_cons,List.map_nil,hs,hx,b];exact hK _ _ (h v' w' d f)
end
end Go.Fl
namespace Go.Proofs.YtgcjmhjjpbcfmaaGreatDoor
open Go.RowKit Go.Fl Go.Fl.Fm
structure Nd where
  h:Hd
  A:Option Addr
  len:Nat
  cap:Nat
@[reducible] def Nd.val (x:Nd):Value:= .agg #[.int .i64 x.h.kind,.int .i64 x.h.n,.int .i64 x.h.d,.string x.h.name,.int .i64 x.h.k,.slice x.A x.len x.cap]
def Nd.cells(x:Nd):List Value:=[.i x.h.kind,.i x.h.n,.i x.h.d,.string x.h.name,.i x.h.k,.l x.A x.len x.cap]
def ndsCells(l:List Nd):List Value:=l.flatMap Nd.cells
structure HdOk (h:Hd):Prop where
  k1: -9223372036854775808≤h.kind
  k2:h.kind≤9223372036854775807
  n1: -9223372036854775808≤h.n
  n2:h.n≤9223372036854775807
  d1: -9223372036854775808≤h.d
  d2:h.d≤9223372036854775807
  e1: -9223372036854775808≤h.k
  e2:h.k≤9223372036854775807
  s:h.name.size≤maxLen
inductive InE (w:World):TE→Nd→Prop where
  | mk (h:Hd) (l:List TE) (A:Option Addr) (len cap:Nat) (vs:List Nd) (ok:HdOk h) (hl:l.length=len) (hc:len≤cap) (hm:cap≤maxLen) (hv:vs.length=len) (hr:Rd w 6 A len (ndsCells vs))
      (hi:∀(i:Nat) T v,l[i]? =some T→vs[i]? =some v→InE w T v):InE w (.mk h l) ⟨h,A,len,cap⟩
theorem InE.go{w w':World}{T:TE}{v:Nd}(h:InE w T v)(hb:Below w.heap.size w w'):InE w' T v:=by
 induction h with
 | mk h l A len cap vs ok hl hc hm hv hr hi ih=>exact .mk h l A len cap vs ok hl hc hm hv (hr.below hb) ih
theorem InE.belowW{w w':World}{T:TE}{v:Nd}(h:InE w T v)(hb:Below w.heap.size w w'):InE w' T v:=h.go hb
theorem InE.b9{w w':World}{T:TE}{v:Nd}(h:InE w T v)(hb:Go.RowKit.Hid (Go.RowKit.Below w.heap.size w w')):Go.RowKit.Hid (InE w' T v):=hI (InE.belowW h hb.o)
theorem InE.ok{w:World}{T:TE}{v:Nd}(h:InE w T v):HdOk v.h:=by
 cases h with
 | mk h l A len cap vs ok=>exact ok
theorem InE.hd{w:World}{T:TE}{v:Nd}(h:InE w T v):T.h=v.h:=by
 cases h with
 | mk h l A len cap vs ok=>rfl
theorem InE.length{w:World}{T:TE}{v:Nd}(h:InE w T v):T.l.length=v.len:=by
 cases h with
 | mk h l A len cap vs ok hl=>exact hl
theorem InE.caps{w:World}{T:TE}{v:Nd}(h:InE w T v):v.len≤v.cap∧v.cap≤maxLen:=by
 cases h with
 | mk h l A len cap vs ok hl hc hm=>exact⟨hc,hm⟩
theorem nds_at(l:List Nd)(k:Nat)(v:Nd)(h:l[k]? =some v)(j:Nat)(hj:j<6):(ndsCells l)[k*6+j]? =v.cells[j]? :=by
 induction l generalizing k with
 | nil=>cases h
 | cons x l ih=>
  have e:ndsCells (x::l)=x.cells++ndsCells l:=rfl;have hx:x.cells.length=6:=rfl
  cases k with
  | zero=>
   have:x=v:=by simpa using h
   subst this
   rw[e,Nat.zero_mul,Nat.zero_add,List.getElem?_append_left (by omega)]
  | succ k=>
   have h':l[k]? =some v:=(by simpa using h);rw[e,List.getElem?_append_right (by omega),hx,show(k+1)*6+j-6=k*6+j by omega];exact ih k h'
theorem InE.at_{w:World}{T:TE}{v:Nd}(h:InE w T v)(i:Nat)(hi:i<v.len):
 ∃b o x,v.A=some ⟨b,o,none⟩∧b<w.heap.size∧InE w (T.l.getD i default) x∧∀j u,x.cells[j]? =some u→j<6→w.cell? ⟨b,o+(i*6+j),none⟩=some u:=by
 cases h with
 | mk h l A len cap vs ok hl hc hm hv hr hin=>
  have hi':i<len:=hi;obtain⟨b,o,hA,hb,hcell⟩:=hr.at_ (by omega)
  obtain⟨T,hT⟩:∃T,l[i]? =some T:=⟨_,List.getElem?_eq_getElem (by omega)⟩
  obtain⟨x,hx⟩:∃x,vs[i]? =some x:=⟨_,List.getElem?_eq_getElem (by omega)⟩
  refine⟨b,o,x,hA,hb,?_,fun j u hu hj=>?_⟩
  ·
   have:(TE.mk h l).l.getD i default=T:=by
    show l.getD i default=T
    rw[List.getD_eq_getElem?_getD,hT]
    rfl
   rw[this];exact hin i T x hT hx
  exact hcell _ _ ((nds_at vs i x hx j hj).trans hu)
