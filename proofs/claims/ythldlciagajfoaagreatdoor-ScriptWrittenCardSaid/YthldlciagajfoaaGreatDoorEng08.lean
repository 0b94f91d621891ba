/- What the seat's proofs lean on, part 8: the executor over abstract values, its soundness, and what the program's functions answer (Slt2, Slt3, Dlf1, Dlf2, Slt4, Flt1, Flt2, Flt3, Sp44, Aim1, Sp45, Aim2, Sp46, Lis1, Lis2, Cpy1, Cpy2, Srt1, Srt2, Set1, Lis3, Top1, Top2, Sp47, Top3, Top4, Sp48, Vw1, Vw2, Cpy3, Bck1, Vw3, Vw4, Vw5, Chn1). -/
import Derived.Test.YthldlciagajfoaaGreatDoorEng07
import Derived.Test.YthldlciagajfoaaGreatDoorEng03
import Derived.Test.YthldlciagajfoaaGreatDoorEng06
import Derived.Test.YthldlciagajfoaaGreatDoorEng05
set_option linter.all false
set_option linter.unusedVariables false
set_option linter.unusedSimpArgs false
set_option maxRecDepth 100000
namespace Go.Eng
open Go Go.Proofs
def withinR (t:Tree) (r:Int):List Int:=(listR t r).filter (slotB t)
theorem slots_within (t:Tree) (n:Int):Tri Tryz.prog 447 [.d (treeD t),.i n] [] fun v H=>v=.clos (.func 460) [] [.ptr 0 0,.ptr 1 0]∧H=[some (.row [.d (treeD t)]),some (.row [.i n])]:=by
 refine Tri_of (m:=0) tt_ok Tryz.func447 rfl (by decide) Tryz.ntmps447 (by rfl) rfl ?_
 repeat' ((conv=>whnf);(first
  |refine finR ?_))
 rfl
theorem slots_within1 (t:Tree) (r:Int):Seq2 460 [.ptr 0 0,.ptr 1 0] (treeD t) (.int .i64 r) ((withinR t r).map AV.i):=by
 intro Y hx hY
 refine Tri_of (m:=3) tt_ok Tryz.func460 rfl (by decide) Tryz.ntmps460 (by rfl) rfl ?_
 have hl:=order_List t r
 have hN:=listR_isN (t:=t) (n:=r)
 unfold withinR at *
 generalize listR t r=L at *
 have hkl:(List.map intCs L).length=L.length:=by simp
 repeat' ((conv=>whnf);(first
  |refine Len_in (fun hlen=>?_)
  |refine Fn.use (hl) rfl rfl ?_))
 refine W_loop (fun μ s=> ∃(j:Nat),j≤L.length∧μ=L.length-j∧
   s=⟨[(0,.clos (.yield Y.l) [] []),(1,.ptr 0 0),(2,.ptr 1 0),(8,.d (ints L)),(9,.i (List.map intCs L).length),(10,.i j)],24,[some (.row [.d (treeD t)]),some (.row [.i r]),some (.yl Y ((L.take j).filter (slotB t)).length)],3,[]⟩) L.length
  ⟨_,?_,0,by omega,by omega,rfl⟩ ?_
 ·exact Wk_env (by repeat (first|exact trivial|refine⟨rfl,?_⟩))
 rintro μ s1 ⟨j,hj,rfl,rfl⟩
 refine W_run tt_ok ?_
 refine Br_dec (fun h=>?_) (fun h=>?_)
 ·rw[hkl] at h
  have hlt:j<L.length:=by omega
  refine Idx_in (intCs L[j]) (by simp[hlt]) (by omega) rfl ?_
  have hc:=hN L[j] (List.getElem_mem hlt)
  have htk:L.take (j+1)=L.take j++[L[j]]:=List.take_succ_eq_append_getElem hlt
  have hsl:=slots_slot t L[j] hc
  cases hs:slotB t L[j]
  ·rw[hs] at hsl
   have e:(L.take (j+1)).filter (slotB t)=(L.take j).filter (slotB t):=by rw[htk,List.filter_append];simp[hs]
   repeat' ((conv=>whnf);(first
    |refine Fn.use (hsl) rfl rfl ?_
    |refine Back_in _ _ ⟨j+1,by omega,rfl,rfl⟩ (by omega) ?_
    |refine ArK_in (wrap_i64 (by omega) (by omega)) ?_))
   rw[e]
   exact Wk_env (by repeat (first|exact trivial|refine⟨rfl,?_⟩))
  ·rw[hs] at hsl
   have e:(L.take (j+1)).filter (slotB t)=(L.take j).filter (slotB t)++[L[j]]:=by rw[htk,List.filter_append];simp[hs]
   have hxk:Y.xs[((L.take j).filter (slotB t)).length]? =some (.i L[j]):=by
    rw[hx,List.getElem?_map]
    have e2:L.filter (slotB t)=(L.take j).filter (slotB t)++([L[j]]++(L.drop (j+1)).filter (slotB t)):=by
     conv=>lhs;rw[← List.take_append_drop (j+1) L,List.filter_append,e,List.append_assoc]
    rw[e2,List.getElem?_append_right (Nat.le_refl _),Nat.sub_self]
    rfl
   repeat' ((conv=>whnf);(first
    |refine Fn.use (hsl) rfl rfl ?_
    |refine Yield_in 2 Y _ (.i L[j]) rfl rfl hY rfl rfl hxk ?_ ?_
    |refine Back_in _ _ ⟨j+1,by omega,rfl,rfl⟩ (by omega) ?_
    |refine finQ (.inr rfl)
    |refine ArK_in (wrap_i64 (by omega) (by omega)) ?_))
   rw[e,List.length_append]
   exact Wk_env (by repeat (first|exact trivial|refine⟨rfl,?_⟩))
 ·rw[hkl] at h
  have hjl:j=L.length:=by omega
  repeat' ((conv=>whnf);(first
   |refine finQ (.inl ?_)))
  rw[hjl,List.take_length]
  simp
end Go.Eng
namespace Go.Eng
open Go Go.Proofs
def fitB (t:Tree) (a:Int) (chosen manual:Bool) (mine s:Int):Bool:=(manual&&chosen&&(s==a))||(!manual&&((getP t s 4).1==mine))
def ofR (t:Tree) (n:Int):Int:=
 if rootR t n= -1 then -1 else ((withinR t (rootR t n)).find? (fitB t (getP t n 9).1 (getP t n 9).2 (getP t (rootR t n) 8).2 (getP t n 4).1)).getD (-1)
def ofH (t:Tree) (r a:Int) (c m:Bool) (q:Int):Heap:=[some (.row [.d (treeD t)]),some (.row [.i r]),some (.row [.i a]),some (.row [.b c]),some (.row [.b m]),some (.row [.i q]),none,none,some .dfr]
theorem find_take {α:Type} {p:α→Bool}: ∀{l:List α} {k:Nat} (h:k<l.length),(∀ x∈l.take k,p x=false)→p l[k]=true→l.find? p=some l[k]:=by
 intro l
 induction l with
 |nil=>intro k h;simp at h
 |cons a r ih=>
  intro k h h1 h2
  cases k with
  |zero=>simp at h2 ⊢;simp[h2]
  |succ k=>
   have ha:=h1 a (by simp)
   simp only[List.getElem_cons_succ] at h2⊢
   rw[List.find?_cons,ha]
   exact ih (by simpa using h) (fun x hx=>h1 x (by simp[hx])) h2
set_option maxHeartbeats 2000000 in
theorem slots_Of (t:Tree) (n:Int):Fn Tryz.prog 425 [.d (treeD t),.i n] (.i (ofR t n)):=by
 refine Fn_of tt_ok Tryz.func425 rfl (by decide) Tryz.ntmps425 rfl ?_
 have hr:=slots_root t n
 by_cases h0:rootR t n= -1
 ·have e:ofR t n= -1:=by unfold ofR;rw[if_pos h0]
  rw[h0] at hr
  rw[e]
  repeat' ((conv=>whnf);(first
   |refine Fn.use (hr) rfl rfl ?_
   |refine fin0 rfl ?_))
  rfl
 have hg:=attr_Get t n 9
 have hh:=attr_Has t (rootR t n) 8
 have hnm:=slots_name t n
 have hw:=slots_within t (rootR t n)
 have hs:=slots_within1 t (rootR t n)
 have e:ofR t n=((withinR t (rootR t n)).find? (fitB t (getP t n 9).1 (getP t n 9).2 (getP t (rootR t n) 8).2 (getP t n 4).1)).getD (-1):=by unfold ofR;rw[if_neg h0]
 rw[e]
 generalize (getP t (rootR t n) 8).2=manual at *
 generalize getP t n 9=ac at *
 obtain ⟨a,chosen⟩:=ac
 generalize (getP t n 4).1=mine at *
 dsimp only at *
 generalize withinR t (rootR t n)=L at *
 generalize rootR t n=r at *
 repeat' ((conv=>whnf);(first
  |refine Br_false (beqF (by omega)) ?_
  |refine Fn.use (hr) rfl rfl ?_
  |refine Fn.use (hg) rfl rfl ?_
  |refine Fn.use (hh) rfl rfl ?_
  |refine Fn.use (hnm) rfl rfl ?_
  |refine Tri.call hw [] rfl rfl trivial rfl rfl rfl rfl (r:=.clos (.func 460) [] [.ptr 6 0,.ptr 7 0]) (H':=[some (.row [.d (treeD t)]),some (.row [.i 0]),some (.row [.i a]),some (.row [.b chosen]),some (.row [.b manual]),some (.row [.i mine]),some (.row [.d (treeD t)]),some (.row [.i r])]) rfl rfl ?_))
 refine W_rangeA [6,7] (fs0:=[]) (cs0:=[.ptr 0 0,.ptr 1 0]) (H0:=[some (.row [.d (treeD t)]),some (.row [.i r])]) (L.map AV.i)
  (fun k H=>H=ofH t 0 a chosen manual mine∧ ∀x∈L.take k,fitB t a chosen manual mine x=false)
  (fun e H=>e=.ret∧ ∃s more,(L.find? (fitB t a chosen manual mine)).getD (-1)=s∧H=ofH t s a chosen manual mine++more) rfl rfl rfl
  (by repeat (first|exact trivial|refine⟨⟨rfl,rfl⟩,?_⟩)) rfl rfl rfl rfl (by decide) (by decide) AsgOk_in rfl plain_ints ?_ ⟨rfl,by simp⟩ ?_ ?_ ?_
 ·intro Y hx hY
  exact hs Y hx hY
 ·rintro lp k z H' hx ⟨rfl,hno⟩ hlen hY
  obtain ⟨c,hc,rfl⟩: ∃c,L[k]? =some c∧z=.i c:=by
   rw[List.getElem?_map] at hx
   cases h:L[k]? with
   |none=>rw[h] at hx;simp at hx
   |some c=>rw[h] at hx;simp at hx;exact⟨c,rfl,hx.symm⟩
  have hlt:k<L.length:=(List.getElem?_eq_some_iff.1 hc).1
  have hce:L[k]=c:=(List.getElem?_eq_some_iff.1 hc).2
  have htk:L.take (k+1)=L.take k++[c]:=by rw[List.take_succ_eq_append_getElem hlt,hce]
  have hnc:=slots_name t c
  cases hf:fitB t a chosen manual mine c
  ·have hno2: ∀x∈L.take (k+1),fitB t a chosen manual mine x=false:=fun x hx=>by
    rw[htk] at hx
    rcases List.mem_append.1 hx with hx|hx
    ·exact hno x hx
    ·simp at hx;subst hx;exact hf
   unfold fitB at hf
   refine W_run tt_ok ?_
   generalize (getP t c 4).1=nm at *
   cases manual <;> cases chosen <;> simp at hf
   all_goals repeat' ((conv=>whnf);(first
    |refine Br_false (beqF (by omega)) ?_
    |refine W_draw 0 tt_ok mixed (by kernel_rfl) ?_
    |refine CallF_in (hnc) rfl rfl ?_
    |refine Rd_next (ofH t 0 a _ _ mine) (Wk_env (by repeat (first|exact trivial|refine⟨rfl,?_⟩))) rfl (by simp[ofH]) ⟨rfl,hno2⟩))
  ·have hfd:(L.find? (fitB t a chosen manual mine)).getD (-1)=c:=by
    have hfl:fitB t a chosen manual mine L[k]=true:=by rw[hce];exact hf
    rw[find_take hlt hno hfl,hce];rfl
   unfold fitB at hf
   refine W_run tt_ok ?_
   generalize (getP t c 4).1=nm at *
   cases manual <;> cases chosen <;> simp at hf
   all_goals repeat' ((conv=>whnf);(first
    |refine Br_true (beqT (by omega)) ?_
    |refine W_draw 0 tt_ok mixed (by kernel_rfl) ?_
    |refine CallF_in (hnc) rfl rfl ?_
    |refine Rd_ret (ofH t c a _ _ mine) (Wk_env (by repeat (first|exact trivial|refine⟨rfl,?_⟩))) rfl (by simp[ofH]) ⟨rfl,c,[],hfd,by simp⟩))
 ·rintro H' ⟨rfl,hno⟩ hlen hY
  rw[List.length_map,List.take_length] at hno
  have:L.find? (fitB t a chosen manual mine)=none:=by
   rw[List.find?_eq_none]
   intro x hx;simp[hno x hx]
  rw[this]
  repeat' ((conv=>whnf);(first
   |refine fin0 rfl ?_))
  rfl
 ·rintro e' H' c _ ⟨rfl,s,more,hs,rfl⟩ hl hY
  rw[hs]
  repeat' ((conv=>whnf);(first
   |refine fin0 rfl ?_))
  rfl
end Go.Eng
namespace Go.Eng
open Go Go.Proofs
theorem rowI_get (l:List Int) (k:Nat) (h:k<l.length):(l.map AV.i)[0+(k:Int).toNat * 1]? =some (.i l[k]):=by simp[h]
theorem indexFunc_own (l:List Int) (g:FuncId) (fs cs:List AV) (rest:Heap) (p:Int→Bool) (hp: ∀k∈l,Tri Tryz.prog g (fs++[.i k]++cs) (some (.row (l.map AV.i))::rest) fun v H'=>v=.b (p k)∧H'=some (.row (l.map AV.i))::rest):
  Tri Tryz.prog 347 [.msl 0 0 l.length l.length 1,.clos (.func g) fs cs] (some (.row (l.map AV.i))::rest) fun v H'=>v=.i (ix p l)∧H'=some (.row (l.map AV.i))::rest:=by
 refine Tri_of (m:=rest.length+1) tt_ok Tryz.func347 rfl (by decide) Tryz.ntmps347 (by rfl) rfl ?_
 refine Len_in (fun hlen=>?_)
 refine W_loop (fun μ s=> ∃(k:Nat),k≤l.length∧μ=l.length-k∧(∀ j (h:j<l.length),j<k→p l[j]=false)∧
   s=⟨[(0,.msl 0 0 l.length l.length 1),(1,.clos (.func g) fs cs),(7,.i l.length),(8,.i k)],19,some (.row (l.map AV.i))::rest,rest.length+1,[]⟩) l.length
  ⟨_,?_,0,by simp,by simp,by simp,rfl⟩ ?_
 ·exact Wk_env (by repeat (first|exact trivial|refine⟨rfl,?_⟩))
 rintro μ s1 ⟨k,hk,rfl,hno,rfl⟩
 refine W_run tt_ok ?_
 refine Br_dec (fun h=>?_) (fun h=>?_)
 ·have hlt:k<l.length:=by omega
  have hb:(0:Int)≤(k:Int)∧(k:Int)<(l.length:Int):=by omega
  have hd:=ix_drop p l k hno hk
  rw[List.drop_eq_getElem_cons hlt] at hd
  refine Br_true (decide_eq_true hb) ?_
  conv=>whnf
  refine Cell_in _ (rowI_get l k hlt) ?_
  skip
  refine Tri.use (hp l[k] (List.getElem_mem hlt)) ?_
  conv=>whnf
  refine Br_split (fun hq=>?_) (fun hq=>?_)
  ·repeat' ((conv=>whnf);(first
   |refine finR ?_))
   simp only[AV.d.injEq,D.int.injEq,true_and,hd,ix]
   simp[hq]
  ·repeat' ((conv=>whnf);(first
   |refine Back_in _ _ ⟨k+1,by omega,rfl,?_,rfl⟩ (by omega) (Wk_env (by repeat (first|exact trivial|refine⟨rfl,?_⟩)))
   |refine ArK_in (wrap_i64 (by omega) (by omega)) ?_))
   intro j hj hjk
   rcases Nat.lt_succ_iff_lt_or_eq.1 hjk with h1|h1
   ·exact hno j hj h1
   ·subst h1;exact hq
 ·have hd:=ix_drop p l k hno hk
  rw[List.drop_eq_nil_of_le (by omega)] at hd
  repeat' ((conv=>whnf);(first
   |refine finR ?_))
  simp[hd,ix]
end Go.Eng
namespace Go.Eng
open Go Go.Proofs
theorem ix_none {p:Int→Bool} {l:List Int} (h:ix p l= -1): ∀x∈l,p x=false:=by
 intro x hx
 have:=ix_any p l
 rw[h] at this
 simp at this
 exact this x hx
theorem ix_first {α:Type} {p:α→Bool}: ∀{l:List α} (h:0≤ix p l),∃i:Nat,ix p l=i∧i<l.length∧(∀ x∈l.take i,p x=false)∧ ∃hi:i<l.length,p l[i]=true:=by
 intro l
 induction l with
 |nil=>intro h;simp[ix] at h
 |cons a r ih=>
  intro h
  simp only[ix] at h⊢
  cases ha:p a with
  |true=>exact⟨0,by simp,by simp,by simp,by simp,by simpa using ha⟩
  |false=>
   rw[ha] at h
   simp only[Bool.false_eq_true,if_false] at h⊢
   have h0: ¬ix p r<0:=by intro h1;rw[if_pos h1] at h;omega
   obtain ⟨i,g1,g2,g3,g4,g5⟩:=ih (by omega)
   rw[if_neg h0]
   refine⟨i+1,by omega,by simp;omega,?_,by simp;omega,by simpa using g5⟩
   intro x hx
   rw[List.take_succ_cons] at hx
   rcases List.mem_cons.1 hx with rfl|hx
   ·exact ha
   ·exact g3 x hx
theorem filter_all {p:Int→Bool} {l:List Int} (h: ∀x∈l,p x=false):l.filter (fun x=> !p x)=l:=by
 rw[List.filter_eq_self];intro x hx;simp[h x hx]
def keep (p:Int→Bool) (l:List Int):List Int:=l.filter fun x=> !p x
theorem keep_len (p:Int→Bool) (l:List Int):(keep p l).length≤l.length:=List.length_filter_le _ _
structure Half (p:Int→Bool) (l:List Int) (j:Nat) (R:List AV):Prop where
 len:R.length=l.length
 fst:R.take (keep p (l.take j)).length=(keep p (l.take j)).map AV.i
 snd: ∀m,j≤m→R[m]? =(l.map AV.i)[m]?
theorem Half.skip {p:Int→Bool} {l:List Int} {j:Nat} {R:List AV} (h:Half p l j R) (hj:j<l.length) (hp:p l[j]=true):Half p l (j+1) R:=by
 have e:keep p (l.take (j+1))=keep p (l.take j):=by unfold keep;rw[List.take_succ_eq_append_getElem hj,List.filter_append];simp[hp]
 exact⟨h.len,by rw[e];exact h.fst,fun m hm=>h.snd m (by omega)⟩
theorem Half.put {p:Int→Bool} {l:List Int} {j:Nat} {R:List AV} (h:Half p l j R) (hj:j<l.length) (hp:p l[j]=false):
  Half p l (j+1) (R.set (keep p (l.take j)).length (.i l[j]))∧(keep p (l.take (j+1))).length=(keep p (l.take j)).length+1:=by
 have e:keep p (l.take (j+1))=keep p (l.take j)++[l[j]]:=by unfold keep;rw[List.take_succ_eq_append_getElem hj,List.filter_append];simp[hp]
 have hk:=keep_len p (l.take j)
 rw[List.length_take] at hk
 refine⟨⟨by simp[h.len],?_,fun m hm=>?_⟩,by rw[e];simp⟩
 ·rw[e,List.length_append,List.length_singleton,List.map_append,←h.fst]
  generalize (keep p (l.take j)).length=i at *
  have hi:i<R.length:=by rw[h.len];omega
  rw[List.take_succ_eq_append_getElem (by simpa using hi),List.take_set_of_le (Nat.le_refl _)]
  simp
 ·rw[List.getElem?_set_ne (by omega)]
  exact h.snd m (by omega)
def keepR (p:Int→Bool) (l:List Int):List AV:=(keep p l).map AV.i++List.replicate (l.length-(keep p l).length) (.i 0)
theorem splice_end {R vs:List AV} {o:Nat} (h:o+vs.length=R.length):splice R o vs=R.take o++vs:=by
 apply List.ext_getElem?
 intro m
 rw[splice_get _ _ _ _ (by omega),List.getElem?_append,List.length_take,Nat.min_eq_left (by omega),List.getElem?_take]
 by_cases hm:m<o
 ·rw[if_neg (by omega),if_pos hm,if_pos hm]
 ·rw[if_neg hm]
  by_cases h2:m<o+vs.length
  ·rw[if_pos ⟨by omega,h2⟩]
  ·rw[if_neg (by omega),List.getElem?_eq_none (by omega),List.getElem?_eq_none (by omega)]
theorem repRow_one (x:AV): ∀n,repRow [x] n=List.replicate n x:=by
 intro n
 induction n with
 |zero=>rfl
 |succ n ih=>simp[repRow,ih,List.replicate_succ]
set_option maxHeartbeats 2000000 in
theorem deleteFunc_int (l:List Int) (hl:l.length≤100000) (g:FuncId) (fs cs:List AV) (rest:Heap) (p:Int→Bool) (hp: ∀k∈l,∀R,Tri Tryz.prog g (fs++[.i k]++cs) (some (.row R)::rest) fun v H'=>v=.b (p k)∧H'=some (.row R)::rest):
  Tri Tryz.prog 279 [.msl 0 0 l.length l.length 1,.clos (.func g) fs cs] (some (.row (l.map AV.i))::rest)
   fun v H'=>v=.msl 0 0 (keep p l).length l.length 1∧H'=some (.row (keepR p l))::rest:=by
 refine Tri_of (m:=rest.length+1) tt_ok Tryz.func279 rfl (by decide) Tryz.ntmps279 (by rfl) rfl ?_
 have hi:=indexFunc_own l g fs cs rest p fun k hk=>hp k hk _
 have hlo:=ix_lo p l
 refine Tri.use hi ?_
 by_cases h0:ix p l= -1
 ·have e:keep p l=l:=filter_all (ix_none h0)
  rw[h0,e]
  conv=>whnf
  refine finQ ⟨rfl,?_⟩
  unfold keepR
  rw[e,Nat.sub_self]
  simp
 obtain ⟨i,g1,g2,g3,g4,g5⟩:=ix_first (p:=p) (l:=l) (by omega)
 rw[g1]
 have hk0:keep p (l.take i)=l.take i:=filter_all g3
 have hH0:Half p l (i+1) (l.map AV.i):=Half.skip ⟨by simp,by rw[hk0,List.length_take,Nat.min_eq_left (by omega),List.map_take],fun m _=>rfl⟩ g4 g5
 have hkl:(keep p (l.take (i+1))).length=i:=by
  have e:keep p (l.take (i+1))=keep p (l.take i):=by unfold keep;rw[List.take_succ_eq_append_getElem g4,List.filter_append];simp[g5]
  rw[e,hk0,List.length_take,Nat.min_eq_left (by omega)]
 repeat' ((conv=>whnf);(first
  |refine ArK_in (wrap_i64 (by omega) (by omega)) ?_))
 refine W_loop (fun μ s=> ∃(j:Nat) (R:List AV),j≤l.length∧μ=l.length-j∧Half p l j R∧(keep p (l.take j)).length<j∧
   s=⟨[(0,.msl 0 0 l.length l.length 1),(1,.clos (.func g) fs cs),(5,.i (keep p (l.take j)).length),(6,.i j)],42,some (.row R)::rest,rest.length+1,[]⟩) (l.length-(i+1))
  ⟨_,?_,i+1,l.map AV.i,by omega,rfl,hH0,by omega,rfl⟩ ?_
 ·rw[hkl];exact Wk_env (by repeat (first|exact trivial|refine⟨rfl,?_⟩))
 rintro μ s1 ⟨j,R,hj,rfl,hR,hlt,rfl⟩
 refine W_run tt_ok ?_
 have hRl:=hR.len
 by_cases hjl:j<l.length
 ·have hc:=hp l[j] (List.getElem_mem hjl)
  have hget:R[0+(j:Int).toNat * 1]? =some (.i l[j]):=by
   rw[show 0+(j:Int).toNat * 1=j by omega,hR.snd j (Nat.le_refl _)];simp[hjl]
  have hb1:(0:Int)≤(j:Int)∧(j:Int)<(l.length:Int):=by omega
  cases hpj:p l[j]
  ·obtain ⟨q1,q2⟩:=hR.put hjl hpj
   generalize (keep p (l.take j)).length=i at *
   have hb2:(0:Int)≤(i:Int)∧(i:Int)<(l.length:Int):=by omega
   rw[hpj] at hc
   have esp:splice R (0+(i:Int).toNat * 1) [.i l[j]]=R.set i (.i l[j]):=by rw[show 0+(i:Int).toNat * 1=i by omega];rfl
   repeat' ((conv=>whnf);(first
    |(refine Br_true (Nat.ble_eq_true_of_le (by rw[hRl];simp;omega)) ?_)
    |refine Br_true (decide_eq_true (by omega)) ?_
    |refine Len_in (fun hlen=>?_)
    |refine Cell_in _ hget ?_
    |refine Tri.use (hc R) ?_
    |refine Back_in _ _ ⟨j+1,_,by omega,rfl,q1,by omega,rfl⟩ (by omega) ?_
    |refine ArK_in (wrap_i64 (by omega) (by omega)) ?_))
   rw[q2,←esp]
   exact Wk_env (by repeat (first|exact trivial|refine⟨rfl,?_⟩))
  ·have q1:=hR.skip hjl hpj
   have e:keep p (l.take (j+1))=keep p (l.take j):=by unfold keep;rw[List.take_succ_eq_append_getElem hjl,List.filter_append];simp[hpj]
   rw[hpj] at hc
   repeat' ((conv=>whnf);(first
    |refine Br_true (decide_eq_true (by omega)) ?_
    |refine Len_in (fun hlen=>?_)
    |refine Cell_in _ hget ?_
    |refine Tri.use (hc R) ?_
    |(refine Back_in _ _ ⟨j+1,_,by omega,rfl,q1,by rw[e];omega,rfl⟩ (by omega) ?_)
    |refine ArK_in (wrap_i64 (by omega) (by omega)) ?_))
   rw[e]
   exact Wk_env (by repeat (first|exact trivial|refine⟨rfl,?_⟩))
 ·have hjn:j=l.length:=by omega
  subst hjn
  have hf:=hR.fst
  rw[List.take_length] at hf hlt
  have htk:l.take l.length=l:=List.take_length
  rw[htk]
  have hkl2:=keep_len p l
  unfold keepR
  generalize keep p l=kp at *
  have hrep: ∀n,(repRow [AV.i 0] n).length=n:=fun n=>by rw[repRow_length];simp
  have hsp: ∀(o n:Nat),o=kp.length→n=l.length-kp.length→[some (Blk.row (splice R o (repRow [AV.i 0] n)))]++rest=some (.row (kp.map AV.i++List.replicate (l.length-kp.length) (.i 0)))::rest:=fun o n ho hn=>by
   subst ho hn
   rw[splice_end (by rw[hrep,hRl];omega),hf,repRow_one]
   rfl
  repeat' ((conv=>whnf);(first
   |refine Br_false (decide_eq_false (by omega)) ?_
   |refine Len_in (fun hlen=>?_)
   |refine Ch_l (Need_in ⟨by omega,by omega,by omega,rfl,by omega⟩ ?_)
   |(refine Need_in (by rw[hRl];omega) ?_)
   |refine finQ ⟨?_,?_⟩))
  ·show AV.msl 0 (0+Int.toNat 0 * 1) ((kp.length:Int).toNat-Int.toNat 0) (l.length-Int.toNat 0) 1=_
   congr 1
  ·exact hsp _ _ (by omega) (by omega)
theorem intsA (l:List Int):((l.map intCs).flatten).map AV.d=l.map AV.i:=by
 induction l with
 |nil=>rfl
 |cons a r ih=>simp only[List.map_cons,List.flatten_cons,List.map_append,ih];rfl
theorem cloneOwn_ints (l:List Int) (hne:l≠[]) (hl:l.length≤1000):Tri Tryz.prog 190 [.d (ints l)] [] fun v H=>v=.msl 0 0 l.length l.length 1∧H=[some (.row (l.map AV.i))]:=by
 refine Tri_of (m:=0) tt_ok Tryz.func190 rfl (by decide) Tryz.ntmps190 (by rfl) rfl ?_
 have e:(List.map intCs l).length=l.length:=by simp
 have hn:l.map intCs≠[]:=by simpa using hne
 refine Nil_in fun b hb=>?_
 obtain rfl:=hb hn
 skip
 refine Ch_r ?_
 skip
 refine App_esl (l.map intCs) rfl rfl hn cs1 (by omega) (Nat.le_of_ble_eq_true rfl) ?_
 rw[intsA]
 repeat' ((conv=>whnf);(first
  |(refine finQ ⟨by rw[← e];rfl,rfl⟩)))
end Go.Eng
namespace Go.Eng
open Go Go.Proofs
theorem indexFunc_esl (g:FuncId) (fs cs:List AV) (H:Heap):Tri Tryz.prog 347 [.esl,.clos (.func g) fs cs] H fun v H'=>v=.i (-1)∧H'=H:=by
 refine Tri_of (m:=H.length) tt_ok Tryz.func347 rfl (by decide) Tryz.ntmps347 (by rfl) rfl ?_
 skip
 refine W_loop (fun μ s=>s=⟨[(0,.esl),(1,.clos (.func g) fs cs),(7,.i 0),(8,.i 0)],19,H,H.length,[]⟩) 0 ⟨_,?_,rfl⟩ ?_
 ·exact Wk_env (by repeat (first|exact trivial|refine⟨rfl,?_⟩))
 rintro μ s1 rfl
 refine W_run tt_ok ?_
 repeat' ((conv=>whnf);(first
  |refine finR rfl))
theorem deleteFunc_esl (g:FuncId) (fs cs:List AV) (H:Heap):Tri Tryz.prog 279 [.esl,.clos (.func g) fs cs] H fun v H'=>v=.esl∧H'=H:=by
 refine Tri_of (m:=H.length) tt_ok Tryz.func279 rfl (by decide) Tryz.ntmps279 (by rfl) rfl ?_
 have h:=indexFunc_esl g fs cs H
 refine Tri.use h ?_
 repeat' ((conv=>whnf);(first
  |refine finR rfl))
theorem cloneOwn_nil:Tri Tryz.prog 190 [.d (ints [])] [] fun v H=>v=.esl∧H=[]:=by
 refine Tri_of (m:=0) tt_ok Tryz.func190 rfl (by decide) Tryz.ntmps190 (by rfl) rfl ?_
 refine Nil_in fun b hb=>?_
 cases b
 ·skip
  refine Ch_r ?_
  skip
  refine Ch_l ?_
  repeat' ((conv=>whnf);(first
   |refine Need_in rfl ?_
   |refine finQ ⟨rfl,rfl⟩))
 ·repeat' ((conv=>whnf);(first
  |refine finW (Fin_all (F:=[]) .nesl) ⟨rfl,rfl⟩))
theorem slots_Assigned1 (t:Tree) (s k:Int) (rest:Option Blk):Tri Tryz.prog 434 ([]++[.i k]++[.ptr 1 0,.ptr 2 0]) [rest,some (.row [.d (treeD t)]),some (.row [.i s])] fun v H'=>v=.b (ofR t k != s)∧H'=[rest,some (.row [.d (treeD t)]),some (.row [.i s])]:=by
 refine Tri_of (m:=3) tt_ok Tryz.func434 rfl (by decide) Tryz.ntmps434 (by rfl) rfl ?_
 repeat' ((conv=>whnf);(first
  |refine W_draw 0 tt_ok mixed (by kernel_rfl) ?_
  |refine CallF_in (slots_Of t k) rfl rfl ?_
  |refine finR ?_))
 rfl
def asgR (t:Tree) (s:Int):List Int:=if allOk t s&&slotB t s then keep (fun k=>ofR t k != s) (nd t (hostR t s)).kids else []
theorem kids_len {t:Tree} {n:Int} (hm:mayB t=true) (hn:isN t n=true):(nd t n).kids.length≤64:=by
 have h64:=may_len64 hm
 have:(nd t n).kids.length≤t.length:=nodup_isN (List.nodup_iff_count.2 fun k=>by
  by_cases hk:k∈(nd t n).kids
  ·exact Nat.le_of_eq ((may_ok hm hn).kids k hk).2.2.2
  ·rw[List.count_eq_zero.2 hk];omega) (fun x hx=>((may_ok hm hn).kids x hx).1)
 omega
theorem FV_keep {g:List Nat} {H:Heap} {b:Nat} (p:Int→Bool) (l:List Int) (hb:H[b]? =some (some (.row (keepR p l)))):FV g [b] H (.msl b 0 (keep p l).length l.length 1) (.d (ints (keep p l))):=by
 have hk:=keep_len p l
 refine .frz b 0 _ _ 1 (keepR p l) ((keep p l).map intCs) (by simp) (by unfold rowOf;rw[hb]) (by simp) cs1 (by unfold keepR;simp) fun i x y hi hx hy=>?_
 unfold keepR at hx
 rw[Nat.zero_add,List.getElem?_append_left (by simp;omega),List.getElem?_map] at hx
 have:((keep p l).map intCs).flatten=(keep p l).map (D.int .i64):=by
  generalize keep p l=q
  induction q with
  |nil=>rfl
  |cons a r ih=>simp only[List.map_cons,List.flatten_cons,ih];rfl
 rw[this,List.getElem?_map] at hy
 cases hq:(keep p l)[i]? with
 |none=>rw[hq] at hx;simp at hx
 |some a=>rw[hq] at hx hy;simp at hx hy;subst hx hy;exact .same _ rfl
theorem renL_ints (g:Nat→Nat) (l:List Int):renL g (l.map AV.i)=l.map AV.i:=by
 induction l with
 |nil=>rfl
 |cons a r ih=>simp only[List.map_cons,renL,ih];rfl
theorem lowL_ints (k:Nat) (l:List Int):lowL k (l.map AV.i)=true:=by
 induction l with
 |nil=>rfl
 |cons a r ih=>simp only[List.map_cons,lowL,ih];rfl
theorem renL_app (g:Nat→Nat) (a b:List AV):renL g (a++b)=renL g a++renL g b:=by
 induction a with
 |nil=>rfl
 |cons x t ih=>simp only[List.cons_append,renL,ih]
theorem renL_keep (g:Nat→Nat) (p:Int→Bool) (l:List Int):renL g (keepR p l)=keepR p l:=by
 unfold keepR
 rw[renL_app,renL_ints]
 congr 1
 rw[show List.replicate (l.length-(keep p l).length) (AV.i 0)=(List.replicate (l.length-(keep p l).length) (0:Int)).map AV.i by simp,renL_ints]
theorem slots_Assigned (t:Tree) (s:Int):Fn Tryz.prog 410 [.d (treeD t),.i s] (.d (ints (asgR t s))):=by
 refine Fn_of tt_ok Tryz.func410 rfl (by decide) Tryz.ntmps410 rfl ?_
 have h1:=slots_is t s
 cases ha:allOk t s
 ·rw[ha] at h1
  have e:asgR t s=[]:=by unfold asgR;rw[ha];rfl
  rw[e]
  repeat' ((conv=>whnf);(first
   |refine Fn.use (h1) rfl rfl ?_
   |refine finD (F:=[]) .nsl))
 rw[ha] at h1
 have ha':=ha
 unfold allOk at ha'
 simp only[Bool.and_eq_true] at ha'
 have h2:=slots_slot t s ha'.2
 cases hs:slotB t s
 ·rw[hs] at h2
  have e:asgR t s=[]:=by unfold asgR;rw[ha,hs];rfl
  rw[e]
  repeat' ((conv=>whnf);(first
   |refine Fn.use (h1) rfl rfl ?_
   |refine Fn.use (h2) rfl rfl ?_
   |refine finD (F:=[]) .nsl))
 rw[hs] at h2
 have hh:hostR t s≠ -1:=by unfold slotB at hs;simp at hs;exact hs.2
 have hok:=(hostR_ok ha).resolve_left hh
 unfold allOk at hok
 simp only[Bool.and_eq_true] at hok
 have hH:=shade_Host t s
 have hkl:=kids_len ha'.1 hok.2
 have e:asgR t s=keep (fun k=>ofR t k != s) (nd t (hostR t s)).kids:=by unfold asgR;rw[ha,hs];rfl
 rw[e]
 have hidx:=fun (K:List D→Prop) (hK:K (nd t (hostR t s)).cs)=>Idx_nd (K:=K) hok.2 (sz:=7) rfl hK
 generalize hostR t s=h at *
 generalize nd t h=X at *
 obtain ⟨kd,tg,pa,ks,ho,ro,ats⟩:=X
 dsimp only at hkl hidx⊢
 cases hks:ks with
 |nil=>
  subst hks
  repeat' ((conv=>whnf);(first
   |refine Fn.use (h1) rfl rfl ?_
   |refine Fn.use (h2) rfl rfl ?_
   |refine W_draw (254+4) tt_ok mixed (by kernel_rfl) ?_
   |refine CallF_in hH rfl rfl ?_
   |refine hidx _ ?_))
  conv=>whnf
  refine CallH_in (r:=.esl) [some (.row [.d (treeD t)]),some (.row [.i s])] (Nat.le_refl _) (fun K' hK=>Tri.call cloneOwn_nil [] rfl rfl trivial rfl rfl rfl rfl rfl rfl hK) ?_
  conv=>whnf
  refine CallH_in (r:=.esl) [some (.row [.d (treeD t)]),some (.row [.i s])] (Nat.le_refl _) (fun K' hK=>Tri.use (deleteFunc_esl _ _ _ _) hK) ?_
  conv=>whnf
  exact finD (F:=[]) .esl
 |cons k0 kr=>
  rw[← hks]
  have hne:ks≠[]:=by rw[hks];simp
  clear hks
  have hcl:=cloneOwn_ints ks hne (by omega)
  have hdl:=deleteFunc_int ks (by omega) 434 [] [.ptr 1 0,.ptr 2 0] [some (.row [.d (treeD t)]),some (.row [.i s])] (fun k=>ofR t k != s) fun k _ R=>slots_Assigned1 t s k _
  have hrk:=fun f=>renL_keep f (fun k=>ofR t k != s) ks
  have hfv: ∀{H:Heap},H[2]? =some (some (.row (keepR (fun k=>ofR t k != s) ks)))→FV [] [2] H (.msl 2 0 (keep (fun k=>ofR t k != s) ks).length ks.length 1) (.d (ints (keep (fun k=>ofR t k != s) ks))):=fun h=>FV_keep _ _ h
  generalize keepR (fun k=>ofR t k != s) ks=KR at *
  generalize keep (fun k=>ofR t k != s) ks=KP at *
  repeat' ((conv=>whnf);(first
   |refine Fn.use (h1) rfl rfl ?_
   |refine Fn.use (h2) rfl rfl ?_
   |refine W_draw (254+4) tt_ok mixed (by kernel_rfl) ?_
   |refine CallF_in hH rfl rfl ?_
   |refine hidx _ ?_))
  conv=>whnf
  refine CallH_in (r:=.msl 2 0 ks.length ks.length 1) [some (.row [.d (treeD t)]),some (.row [.i s]),some (.row (ks.map AV.i))] (Nat.le_succ _) (fun K' hK=>Tri.call hcl [] rfl rfl trivial rfl rfl rfl rfl rfl (by rw[patch_nil];simp only[renH,renB,renL_ints];rfl) hK) ?_
  conv=>whnf
  refine CallH_in (r:=.msl 2 0 KP.length ks.length 1) [some (.row [.d (treeD t)]),some (.row [.i s]),some (.row KR)] (Nat.le_refl _) (fun K' hK=>Tri.call hdl [2,0,1] rfl rfl ⟨⟨by simp only[renB,renL_ints];rfl,lowL_ints _ _⟩,⟨rfl,rfl⟩,⟨rfl,rfl⟩,trivial⟩ rfl rfl rfl rfl rfl (by show [some (Blk.row [AV.d (treeD t)]),some (Blk.row [AV.i s]),some (Blk.row (renL (hmap [2,0,1] 3) KR))]=_;rw[hrk]) hK) ?_
  conv=>whnf
  exact finD (F:=[2]) (hfv rfl)
end Go.Eng
namespace Go.Eng
open Go Go.Proofs
theorem flat_is (t:Tree) (n:Int):Fn Tryz.prog 304 [.d (treeD t),.i n] (.b (allOk t n)):=by
 refine Fn_of tt_ok Tryz.func304 rfl (by decide) Tryz.ntmps304 rfl ?_
 cases ha:allOk t n
 ·have e1:=topR_none ha
  repeat' ((conv=>whnf);(first
   |refine Fn.use (order_Top t n) rfl rfl ?_
   |refine fin0 rfl ?_))
  all_goals simp_all
 ·have h1:=topR_isN ha
  have h2:=nd_pos h1
  repeat' ((conv=>whnf);(first
   |refine Fn.use (order_Top t n) rfl rfl ?_
   |refine fin0 rfl ?_))
  all_goals (simp_all;try omega)
def fkR (t:Tree) (n:Int):List Int:=
 if (nd t n).kind=3 then [] else if (nd t n).root≠ -1 then (nd t (nd t n).root).kids else if asgR t n≠[] then asgR t n else (nd t n).kids
theorem flat_kids (t:Tree) (n:Int) (ha:allOk t n=true):Fn Tryz.prog 372 [.d (treeD t),.i n] (.d (ints (fkR t n))):=by
 refine Fn_of tt_ok Tryz.func372 rfl (by decide) Tryz.ntmps372 rfl ?_
 have ha':=ha
 unfold allOk at ha'
 simp only[Bool.and_eq_true] at ha'
 have hA:=slots_Assigned t n
 have hrt:=(may_ok ha'.1 ha'.2).rt
 have hal:(List.map intCs (asgR t n)).length=(asgR t n).length:=by simp
 by_cases h3:(nd t n).kind=3
 ·have e:fkR t n=[]:=by unfold fkR;rw[if_pos h3]
  rw[e]
  repeat' ((conv=>whnf);(first
   |refine Br_true (beqT (by omega)) ?_
   |refine Idx_nd ha'.2 rfl ?_
   |refine finD (F:=[]) .nsl))
 by_cases hr:(nd t n).root= -1
 ·by_cases has:asgR t n=[]
  ·have e:fkR t n=(nd t n).kids:=by unfold fkR;rw[if_neg h3,if_neg (by simpa using hr),if_neg (by simpa using has)]
   rw[e]
   rw[has] at hA
   repeat' ((conv=>whnf);(first
    |refine Br_false (beqF (by omega)) ?_
    |refine Br_false (bneF (by omega)) ?_
    |refine Len_in (fun hlen=>?_)
    |refine Idx_nd ha'.2 rfl ?_
    |refine Fn.use (hA) rfl rfl ?_
    |refine fin0 rfl ?_))
   all_goals (first|rfl|(exfalso;simp_all))
  ·have e:fkR t n=asgR t n:=by unfold fkR;rw[if_neg h3,if_neg (by simpa using hr),if_pos has]
   have hpos:0<(asgR t n).length:=List.length_pos_iff.2 has
   rw[e]
   generalize asgR t n=A at *
   repeat' ((conv=>whnf);(first
    |refine Br_false (beqF (by omega)) ?_
    |refine Br_false (bneF (by omega)) ?_
    |refine Br_true (decide_eq_true (by omega)) ?_
    |refine Len_in (fun hlen=>?_)
    |refine Idx_nd ha'.2 rfl ?_
    |refine Fn.use (hA) rfl rfl ?_
    |refine fin0 rfl ?_))
   all_goals (first|rfl|(exfalso;omega))
 ·obtain ⟨_,g2,_,_⟩:=hrt hr
  have e:fkR t n=(nd t (nd t n).root).kids:=by unfold fkR;rw[if_neg h3,if_pos hr]
  rw[e]
  repeat' ((conv=>whnf);(first
   |refine Br_false (beqF (by omega)) ?_
   |refine Br_true (bneT (by omega)) ?_
   |refine Idx_nd ha'.2 rfl ?_
   |refine Idx_nd g2 rfl ?_
   |refine fin0 rfl ?_))
  all_goals (first|rfl|(exfalso;omega))
def foR (t:Tree) (n:Int):Int:=
 if (nd t n).parent= -1 then -1 else if (nd t (nd t n).parent).kind=3 then hostR t n else if (nd t (nd t n).parent).root≠ -1 then ofR t n else (nd t n).parent
theorem flat_over (t:Tree) (n:Int) (ha:allOk t n=true):Fn Tryz.prog 401 [.d (treeD t),.i n] (.i (foR t n)):=by
 refine Fn_of tt_ok Tryz.func401 rfl (by decide) Tryz.ntmps401 rfl ?_
 have ha':=ha
 unfold allOk at ha'
 simp only[Bool.and_eq_true] at ha'
 have hp:=may_par ha'.1 ha'.2
 have hH:=shade_Host t n
 have hO:=slots_Of t n
 by_cases h0:(nd t n).parent= -1
 ·have e:foR t n= -1:=by unfold foR;rw[if_pos h0]
  rw[e]
  repeat' ((conv=>whnf);(first
   |refine Br_true (beqT (by omega)) ?_
   |refine Idx_nd ha'.2 rfl ?_
   |refine fin0 rfl ?_))
  all_goals (first|rfl|(exfalso;omega))
 have hpn:=hp.resolve_left h0
 by_cases h3:(nd t (nd t n).parent).kind=3
 ·have e:foR t n=hostR t n:=by unfold foR;rw[if_neg h0,if_pos h3]
  rw[e]
  repeat' ((conv=>whnf);(first
   |refine Br_true (beqT (by omega)) ?_
   |refine Br_false (beqF (by omega)) ?_
   |refine Idx_nd ha'.2 rfl ?_
   |refine Idx_nd hpn rfl ?_
   |refine Fn.use (hH) rfl rfl ?_
   |refine fin0 rfl ?_))
  all_goals (first|rfl|(exfalso;omega))
 by_cases hr:(nd t (nd t n).parent).root= -1
 ·have e:foR t n=(nd t n).parent:=by unfold foR;rw[if_neg h0,if_neg h3,if_neg (by simpa using hr)]
  rw[e]
  repeat' ((conv=>whnf);(first
   |refine Br_false (beqF (by omega)) ?_
   |refine Br_false (bneF (by omega)) ?_
   |refine Idx_nd ha'.2 rfl ?_
   |refine Idx_nd hpn rfl ?_
   |refine fin0 rfl ?_))
  all_goals (first|rfl|(exfalso;omega))
 ·have e:foR t n=ofR t n:=by unfold foR;rw[if_neg h0,if_neg h3,if_pos hr]
  rw[e]
  repeat' ((conv=>whnf);(first
   |refine Br_false (beqF (by omega)) ?_
   |refine Br_true (bneT (by omega)) ?_
   |refine Idx_nd ha'.2 rfl ?_
   |refine Idx_nd hpn rfl ?_
   |refine Fn.use (hO) rfl rfl ?_
   |refine fin0 rfl ?_))
  all_goals (first|rfl|(exfalso;omega))
end Go.Eng
namespace Go.Eng
open Go Go.Proofs
theorem ofR_ok (t:Tree) (n:Int) (hm:mayB t=true):ofR t n= -1∨allOk t (ofR t n)=true:=by
 unfold ofR
 split
 ·exact .inl rfl
 ·cases h:(withinR t (rootR t n)).find? (fitB t (getP t n 9).1 (getP t n 9).2 (getP t (rootR t n) 8).2 (getP t n 4).1) with
  |none=>exact .inl rfl
  |some s=>
   right
   have h1:=List.mem_of_find?_eq_some h
   unfold withinR at h1
   have h2:=listR_isN s (List.mem_filter.1 h1).1
   show allOk t s=true
   unfold allOk
   rw[hm,h2];rfl
theorem foR_ok (t:Tree) (n:Int) (ha:allOk t n=true):foR t n= -1∨allOk t (foR t n)=true:=by
 have ha':=ha
 unfold allOk at ha'
 simp only[Bool.and_eq_true] at ha'
 unfold foR
 split
 ·exact .inl rfl
 ·rename_i h0
  have hpn:=(may_par ha'.1 ha'.2).resolve_left h0
  split
  ·exact hostR_ok ha
  ·split
   ·exact ofR_ok t n ha'.1
   ·right;unfold allOk;rw[ha'.1,hpn];rfl
def fpR (t:Tree) (n:Int):Int:=if allOk t n=false then -1 else if foR t n≠ -1∧(fkR t (foR t n)).any (· ==n)=true then foR t n else -1
theorem flat_Parent (t:Tree) (n:Int):Fn Tryz.prog 368 [.d (treeD t),.i n] (.i (fpR t n)):=by
 refine Fn_of tt_ok Tryz.func368 rfl (by decide) Tryz.ntmps368 rfl ?_
 have h1:=flat_is t n
 cases ha:allOk t n
 ·have e:fpR t n= -1:=by unfold fpR;rw[if_pos ha]
  rw[ha] at h1
  rw[e]
  repeat' ((conv=>whnf);(first
   |refine Fn.use (h1) rfl rfl ?_
   |refine fin0 rfl ?_))
  rfl
 rw[ha] at h1
 have ho:=flat_over t n ha
 have hok:=foR_ok t n ha
 have e:fpR t n=if foR t n≠ -1∧(fkR t (foR t n)).any (· ==n)=true then foR t n else -1:=by unfold fpR;rw[if_neg (by rw[ha];simp)]
 rw[e]
 generalize foR t n=p at *
 by_cases h0:p= -1
 ·subst h0
  rw[if_neg (by simp)]
  repeat' ((conv=>whnf);(first
   |refine Fn.use (h1) rfl rfl ?_
   |refine Fn.use (ho) rfl rfl ?_
   |refine fin0 rfl ?_))
  rfl
 have hk:=flat_kids t p (hok.resolve_left h0)
 have hc:=contains_int (fkR t p) n
 generalize fkR t p=ks at *
 cases hb:ks.any (· ==n)
 ·rw[hb] at hc
  rw[if_neg (by simp)]
  repeat' ((conv=>whnf);(first
   |refine Br_true (bneT (by omega)) ?_
   |refine Fn.use (h1) rfl rfl ?_
   |refine Fn.use (ho) rfl rfl ?_
   |refine Fn.use (hk) rfl rfl ?_
   |refine Fn.use (hc) rfl rfl ?_
   |refine fin0 rfl ?_))
  rfl
 ·rw[hb] at hc
  rw[if_pos ⟨h0,rfl⟩]
  repeat' ((conv=>whnf);(first
   |refine Br_true (bneT (by omega)) ?_
   |refine Fn.use (h1) rfl rfl ?_
   |refine Fn.use (ho) rfl rfl ?_
   |refine Fn.use (hk) rfl rfl ?_
   |refine Fn.use (hc) rfl rfl ?_
   |refine fin0 rfl ?_))
  rfl
def fupO (t:Tree):Nat→Int→Option (List Int)
 |0,_=>none
 |f+1,n=>if n= -1 then some [] else (fupO t f (fpR t n)).map (n:: ·)
theorem flat_up (t:Tree) (n:Int):Tri Tryz.prog 306 [.d (treeD t),.i n] [] fun v H=>v=.clos (.func 367) [] [.ptr 1 0,.ptr 0 0]∧H=[some (.row [.d (treeD t)]),some (.row [.i n])]:=by
 refine Tri_of (m:=0) tt_ok Tryz.func306 rfl (by decide) Tryz.ntmps306 (by rfl) rfl ?_
 repeat' ((conv=>whnf);(first
  |refine finR ?_))
 rfl
theorem flat_up1 (t:Tree) (n:Int) (f:Nat) (L:List Int) (hL:fupO t f n=some L):Seq2 367 [.ptr 1 0,.ptr 0 0] (treeD t) (.int .i64 n) (L.map AV.i):=by
 intro Y hx hY
 rw[← hx]
 refine Tri_of (m:=3) tt_ok Tryz.func367 rfl (by decide) Tryz.ntmps367 (by rfl) rfl ?_
 refine W_loop (fun μ s=> ∃(k:Nat) (c:Int) (r:List Int),fupO t μ c=some r∧L.drop k=r∧L.length=k+r.length∧
   s=⟨[(0,.clos (.yield Y.l) [] []),(1,.ptr 1 0),(2,.ptr 0 0)],14,[some (.row [.d (treeD t)]),some (.row [.i c]),some (.yl Y k)],3,[]⟩) f
  ⟨_,?_,0,n,L,hL,by simp,by simp,rfl⟩ ?_
 ·exact Wk_env (by repeat (first|exact trivial|refine⟨rfl,?_⟩))
 rintro μ s1 ⟨k,c,r,he,hd,hl,rfl⟩
 have hxl:Y.xs.length=k+r.length:=by rw[hx];simpa using hl
 refine W_run tt_ok ?_
 cases μ with
 |zero=>simp[fupO] at he
 |succ f'=>
 simp only[fupO] at he
 refine Br_bne (fun h1=>?_) (fun h1=>?_)
 ·rw[if_neg h1] at he
  cases hr:fupO t f' (fpR t c) with
  |none=>rw[hr] at he;simp at he
  |some r'=>
  rw[hr] at he
  simp at he
  subst he
  have hxk:Y.xs[k]? =some (.i c):=by
   rw[hx,List.getElem?_map]
   have:L[k]? =some c:=by
    have:=congrArg (·[0]?) hd
    simpa using this
   rw[this];rfl
  have hd':L.drop (k+1)=r':=by
   have:=congrArg List.tail hd
   rw[List.tail_drop] at this
   simpa using this
  have hl':L.length=(k+1)+r'.length:=by rw[hl,List.length_cons];omega
  have hp:=flat_Parent t c
  refine Yield_in 2 Y k (.i c) rfl rfl hY rfl rfl hxk ?_ ?_
  ·repeat' ((conv=>whnf);(first
   |refine Fn.use (hp) rfl rfl ?_
   |refine Back_in _ _ ⟨k+1,_,r',hr,hd',hl',rfl⟩ (by omega) (Wk_env (by repeat (first|exact trivial|refine⟨rfl,?_⟩)))))
  ·repeat' ((conv=>whnf);(first
   |refine finQ (.inr rfl)))
 ·rw[if_pos h1] at he
  simp at he
  subst he
  repeat' ((conv=>whnf);(first
   |refine finQ (.inl ?_)))
  rw[hxl];rfl
end Go.Eng
namespace Go.Eng
open Go Go.Proofs
def FUp (t:Tree) (n:Int) (L:List Int):Prop:=(allOk t n=false∧L=[])∨(allOk t n=true∧L.length≤10000∧ ∃f,fupO t f n=some L)
theorem flat_Up (t:Tree) (n:Int) (L:List Int) (h:FUp t n L):Fn Tryz.prog 233 [.d (treeD t),.i n] (.d (ints L)):=by
 refine Fn_of tt_ok Tryz.func233 rfl (by decide) Tryz.ntmps233 rfl ?_
 have h1:=flat_is t n
 rcases h with ⟨ha,rfl⟩|⟨ha,hlen,f,hf⟩
 ·rw[ha] at h1
  repeat' ((conv=>whnf);(first
   |refine Fn.use (h1) rfl rfl ?_
   |refine finD (F:=[]) .nsl))
 ·rw[ha] at h1
  have hc:=collect_int 367 [.ptr 1 0,.ptr 0 0] (treeD t) (.int .i64 n) _ (.inr rfl) (flat_up1 t n f L hf) hlen
  repeat' ((conv=>whnf);(first
   |refine Fn.use (h1) rfl rfl ?_
   |refine Tri.call (flat_up t n) [] rfl rfl trivial rfl rfl rfl rfl (r:=.clos (.func 367) [] [.ptr 1 0,.ptr 0 0]) (H':=[some (.row [.d (treeD t)]),some (.row [.i n])]) rfl rfl ?_
   |refine Tri.use hc ?_
   |refine fin0 rfl ?_))
  rfl
theorem flat_Above (t:Tree) (a b:Int) (L:List Int) (h:FUp t b L):Fn Tryz.prog 242 [.d (treeD t),.i a,.i b] (.b (L.any (· ==a))):=by
 refine Fn_of tt_ok Tryz.func242 rfl (by decide) Tryz.ntmps242 rfl ?_
 have h1:=flat_Up t b L h
 have h2:=contains_int L a
 repeat' ((conv=>whnf);(first
  |refine Fn.use (h1) rfl rfl ?_
  |refine Fn.use (h2) rfl rfl ?_
  |refine fin0 rfl ?_))
 rfl
theorem flat_Has (t:Tree) (n:Int) (L:List Int) (h:FUp t n L):Fn Tryz.prog 437 [.d (treeD t),.i n] (.b (L.any (· ==0))):=by
 refine Fn_of tt_ok Tryz.func437 rfl (by decide) Tryz.ntmps437 rfl ?_
 have h1:=flat_Above t 0 n L h
 repeat' ((conv=>whnf);(first
  |refine Fn.use (h1) rfl rfl ?_
  |refine fin0 rfl ?_))
 rfl
end Go.Eng
namespace Go.Eng
open Go
structure Ev where
 type:Int
 target:Int
 related:Int
 bubbles:Bool
 cancel:Bool
 composed:Bool
def Ev.cs (e:Ev):List D:=[.int .i64 e.type,.int .i64 e.target,.int .i64 e.related,.bool e.bubbles,.bool e.cancel,.bool e.composed]
end Go.Eng
namespace Go.Eng
open Go Go.Proofs
theorem aim_is (t:Tree) (n:Int):Fn Tryz.prog 422 [.d (treeD t),.i n] (.b (allOk t n)):=by
 refine Fn_of tt_ok Tryz.func422 rfl (by decide) Tryz.ntmps422 rfl ?_
 cases ha:allOk t n
 ·have e1:=topR_none ha
  repeat' ((conv=>whnf);(first
   |refine Fn.use (order_Top t n) rfl rfl ?_
   |refine fin0 rfl ?_))
  all_goals simp_all
 ·have h1:=topR_isN ha
  have h2:=nd_pos h1
  repeat' ((conv=>whnf);(first
   |refine Fn.use (order_Top t n) rfl rfl ?_
   |refine fin0 rfl ?_))
  all_goals (simp_all;try omega)
def apR (t:Tree) (n:Int) (e:Ev):Int:=
 if allOk t n=false∨allOk t e.target=false then -1
 else if ofR t n≠ -1 then ofR t n
 else if (nd t n).kind=3∧e.composed=false∧topR t e.target=n then -1
 else hi (nd t n)
theorem aim_Parent (t:Tree) (n:Int) (e:Ev):Fn Tryz.prog 423 [.d (treeD t),.i n,aggD e.cs] (.i (apR t n e)):=by
 refine Fn_of tt_ok Tryz.func423 rfl (by decide) Tryz.ntmps423 rfl ?_
 have h1:=aim_is t n
 have h2:=aim_is t e.target
 cases ha:allOk t n
 ·have e1:apR t n e= -1:=by unfold apR;rw[if_pos (.inl ha)]
  rw[ha] at h1
  rw[e1]
  repeat' ((conv=>whnf);(first
   |refine Fn.use (h1) rfl rfl ?_
   |refine fin0 rfl ?_))
  rfl
 cases hb:allOk t e.target
 ·have e1:apR t n e= -1:=by unfold apR;rw[if_pos (.inr hb)]
  rw[ha] at h1
  rw[hb] at h2
  rw[e1]
  repeat' ((conv=>whnf);(first
   |refine Fn.use (h1) rfl rfl ?_
   |refine Fn.use (h2) rfl rfl ?_
   |refine fin0 rfl ?_))
  rfl
 rw[ha] at h1
 rw[hb] at h2
 have hO:=slots_Of t n
 have hT:=order_Top t e.target
 have hn:isN t n=true:=by unfold allOk at ha;simp at ha;exact ha.2
 have eS:apR t n e=if ofR t n≠ -1 then ofR t n else if (nd t n).kind=3∧e.composed=false∧topR t e.target=n then -1 else hi (nd t n):=by
  unfold apR;rw[if_neg];rintro (h|h);rw[ha] at h;simp at h;rw[hb] at h;simp at h
 rw[eS]
 generalize ofR t n=s at *
 generalize topR t e.target=T at *
 by_cases h0:s= -1
 ·subst h0
  rw[if_neg (by simp)]
  obtain ⟨ety,etg,ere,ebu,eca,eco⟩:=e
  dsimp only[Ev.cs] at *
  cases eco
  all_goals repeat' ((conv=>whnf);(first
   |refine Br_beq (fun h=>?_) (fun h=>?_)
   |refine Fn.use (h1) rfl rfl ?_
   |refine Fn.use (h2) rfl rfl ?_
   |refine Fn.use (hO) rfl rfl ?_
   |refine Fn.use (hT) rfl rfl ?_
   |refine Idx_nd hn rfl ?_
   |refine W_draw 0 tt_ok mixed (by kernel_rfl) ?_
   |refine fin0 rfl ?_))
  all_goals (simp_all <;> (unfold hi;rfl))
 ·rw[if_pos h0]
  repeat' ((conv=>whnf);(first
   |refine Br_true (bneT (by omega)) ?_
   |refine Fn.use (h1) rfl rfl ?_
   |refine Fn.use (h2) rfl rfl ?_
   |refine Fn.use (hO) rfl rfl ?_
   |refine fin0 rfl ?_))
  rfl
end Go.Eng
namespace Go.Eng
open Go
structure Stp where
 node:Int
 target:Int
 related:Int
def Stp.cs (s:Stp):List D:=[.int .i64 s.node,.int .i64 s.target,.int .i64 s.related]
theorem cs3s {l:List Stp}: ∀r∈l.map Stp.cs,r.length=3:=by
 intro r hr;obtain ⟨x,_,rfl⟩:=List.mem_map.1 hr;rfl
def visC (s:Stp) (phase:Int):List D:=[.int .i64 s.node,.int .i64 s.target,.int .i64 s.related,.int .i64 (if s.node=s.target then 2 else phase),.bool (phase==1)]
end Go.Eng
namespace Go.Eng
open Go Go.Proofs
theorem aim_visit (s:Stp) (ph:Int):Fn Tryz.prog 397 [aggD s.cs,.i ph] (aggD (visC s ph)):=by
 refine Fn_of tt_ok Tryz.func397 rfl (by decide) Tryz.ntmps397 rfl ?_
 unfold visC
 obtain ⟨n,tg,rl⟩:=s
 dsimp only[Stp.cs] at *
 by_cases h:n=tg
 ·rw[if_pos h]
  subst h
  repeat' ((conv=>whnf);(first
   |refine Br_true (beqT (by omega)) ?_
   |refine fin0 rfl ?_))
  all_goals rfl
 ·rw[if_neg h]
  repeat' ((conv=>whnf);(first
   |refine Br_false (beqF (by omega)) ?_
   |refine fin0 rfl ?_))
  all_goals (first|rfl|(exfalso;simp_all))
def stopR (t:Tree) (e:Ev) (n:Int):Stp:=⟨n,retR t e.target n,retR t e.related n⟩
def pathO (t:Tree) (e:Ev):Nat→Int→Option (List Stp)
 |0,_=>none
 |f+1,n=>if n= -1 then some [] else if (stopR t e n).target=(stopR t e n).related∧e.target≠e.related then some [] else (pathO t e f (apR t n e)).map (stopR t e n:: ·)
theorem aim_Path (t:Tree) (e:Ev) (f:Nat) (L:List Stp) (hlen:L.length≤1000) (h:(allOk t e.target=false∧L=[])∨(allOk t e.target=true∧pathO t e f e.target=some L)):
  Fn Tryz.prog 395 [.d (treeD t),aggD e.cs] (.d (.sl (L.map Stp.cs))):=by
 refine Fn_of tt_ok Tryz.func395 rfl (by decide) Tryz.ntmps395 rfl ?_
 have h1:=aim_is t e.target
 rcases h with ⟨ha,rfl⟩|⟨ha,hL⟩
 ·rw[ha] at h1
  repeat' ((conv=>whnf);(first
   |refine Fn.use (h1) rfl rfl ?_
   |refine finD (F:=[]) .nsl))
 rw[ha] at h1
 repeat' ((conv=>whnf);(first
  |refine Fn.use (h1) rfl rfl ?_))
 refine W_loop (fun μ s=> ∃(c:Int) (acc r:List Stp),pathO t e μ c=some r∧acc++r=L∧
   s=⟨[(0,.d (treeD t)),(3,.ptr 0 0),(5,AccV 1 3 (acc.map Stp.cs)),(6,.i c)],50,[some (.row (e.cs.map .d)),AccB (acc.map Stp.cs)],0,[]⟩) f ⟨_,?_,e.target,[],L,hL,rfl,rfl⟩ ?_
 ·rw[List.map_nil,AccV_nil,AccB_nil]
  exact Wk.trans Wk_pad (Wk_env (by repeat (first|exact trivial|refine⟨rfl,?_⟩)))
 rintro μ s1 ⟨c,acc,r,hr,hacc,rfl⟩
 refine W_run tt_ok ?_
 cases μ with
 |zero=>simp[pathO] at hr
 |succ f'=>
 rw[pathO] at hr
 have hal:acc.length≤1000:=by have:=congrArg List.length hacc;rw[List.length_append] at this;omega
 have hml:(acc.map Stp.cs).length=acc.length:=by simp
 by_cases hc:c= -1
 ·rw[if_pos hc] at hr
  injection hr with hr
  subst hr
  rw[List.append_nil] at hacc
  subst hacc
  subst hc
  repeat' ((conv=>whnf);(first
   |refine finD (F:=[1]) (FV_acc _ rfl cs3s)
   |refine force_in ?_))
 rw[if_neg hc] at hr
 have hR1:=shade_Retarget t e.target c
 have hR2:=shade_Retarget t e.related c
 have hP:=aim_Parent t c e
 have hcs:(stopR t e c).cs=[.int .i64 c,.int .i64 (retR t e.target c),.int .i64 (retR t e.related c)]:=rfl
 have hst:(stopR t e c).target=retR t e.target c∧(stopR t e c).related=retR t e.related c:=⟨rfl,rfl⟩
 rw[hst.1,hst.2] at hr
 generalize stopR t e c=sc at *
 generalize retR t e.target c=tg at *
 generalize retR t e.related c=rl at *
 obtain ⟨ety,etg,ere,ebu,eca,eco⟩:=e
 dsimp only[Ev.cs] at *
 by_cases hx:tg=rl∧etg≠ere
 ·rw[if_pos hx] at hr
  injection hr with hr
  subst hr
  rw[List.append_nil] at hacc
  subst hacc
  obtain ⟨rfl,hne⟩:=hx
  repeat' ((conv=>whnf);(first
   |refine Br_true (beqT (by omega)) ?_
   |refine Br_true (bneT (by omega)) ?_
   |refine W_draw 0 tt_ok mixed (by kernel_rfl) ?_
   |refine CallF_in (hR1) rfl rfl ?_
   |refine CallF_in (hR2) rfl rfl ?_
   |refine finD (F:=[1]) (FV_acc _ rfl cs3s)
   |refine force_in ?_))
 ·rw[if_neg hx] at hr
  generalize apR t c _=c2 at *
  cases hr2:pathO t _ f' c2 with
  |none=>rw[hr2] at hr;simp at hr
  |some r'=>
  rw[hr2] at hr
  simp at hr
  subst hr
  have ha:=Acc_app (b:=1) (sz:=3) (rows:=acc.map Stp.cs) (new:=[[.int .i64 c,.int .i64 tg,.int .i64 rl]]) (by simp)
  have hnext:acc++[sc]++r'=L:=by rw[List.append_assoc];exact hacc
  have hmap:(acc++[sc]).map Stp.cs=acc.map Stp.cs++[[.int .i64 c,.int .i64 tg,.int .i64 rl]]:=by rw[List.map_append];simp[hcs]
  have hr3: ∀r∈acc.map Stp.cs,r.length=3:=cs3s
  by_cases htr:tg=rl
  ·have heq:etg=ere:=by
    by_cases h:etg=ere
    ·exact h
    ·exact absurd ⟨htr,h⟩ hx
   subst htr
   subst heq
   repeat' ((conv=>whnf);(first
    |refine Br_true (beqT (by omega)) ?_
    |refine Br_true (bneT (by omega)) ?_
    |refine Br_false (bneF (by omega)) ?_
    |refine W_draw 0 tt_ok mixed (by kernel_rfl) ?_
    |refine CallF_in (hR1) rfl rfl ?_
    |refine force_in ?_))
   refine Ch_r ?_
   conv=>whnf
   refine App_acc (acc.map Stp.cs) [[.int .i64 c,.int .i64 tg,.int .i64 tg]] rfl rfl rfl rfl (by simp) hr3 (by intro r hr;simp at hr;subst hr;rfl) (by rw[hml];simp only[List.length_cons,List.length_nil];omega) (Nat.le_of_ble_eq_true rfl) ?_
   repeat' ((conv=>whnf);(first
    |refine Fn.use (hP) rfl rfl ?_
    |refine Back_in _ f' ⟨c2,acc++[sc],r',hr2,hnext,rfl⟩ (by omega) ?_))
   rw[hmap,ha.1,ha.2]
   exact Wk_ren [0,3] rfl rfl ⟨⟨rfl,rfl⟩,⟨by rw[renB_row];rfl,lowB_row _ _⟩,trivial⟩ (by repeat (first|exact trivial|refine⟨⟨rfl,rfl⟩,?_⟩)) (by decide) (by omega)
  ·repeat' ((conv=>whnf);(first
   |refine Br_false (beqF (by omega)) ?_
   |refine Br_true (bneT (by omega)) ?_
   |refine W_draw 0 tt_ok mixed (by kernel_rfl) ?_
   |refine CallF_in (hR1) rfl rfl ?_
   |refine CallF_in (hR2) rfl rfl ?_
   |refine force_in ?_))
   refine Ch_r ?_
   conv=>whnf
   refine App_acc (acc.map Stp.cs) [[.int .i64 c,.int .i64 tg,.int .i64 rl]] rfl rfl rfl rfl (by simp) hr3 (by intro r hr;simp at hr;subst hr;rfl) (by rw[hml];simp only[List.length_cons,List.length_nil];omega) (Nat.le_of_ble_eq_true rfl) ?_
   repeat' ((conv=>whnf);(first
    |refine Fn.use (hP) rfl rfl ?_
    |refine Back_in _ f' ⟨c2,acc++[sc],r',hr2,hnext,rfl⟩ (by omega) ?_))
   rw[hmap,ha.1,ha.2]
   exact Wk_ren [0,3] rfl rfl ⟨⟨rfl,rfl⟩,⟨by rw[renB_row];rfl,lowB_row _ _⟩,trivial⟩ (by repeat (first|exact trivial|refine⟨⟨rfl,rfl⟩,?_⟩)) (by decide) (by omega)
end Go.Eng
namespace Go.Eng
open Go
structure Hear where
 node:Int
 type:Int
 capture:Bool
 once:Bool
 prog:Int
instance:Inhabited Hear:=⟨⟨0,0,false,false,0⟩⟩
def Hear.cs (h:Hear):List D:=[.int .i64 h.node,.int .i64 h.type,.bool h.capture,.bool h.once,.int .i64 h.prog]
abbrev hearsD (l:List Hear):D:=.sl (l.map Hear.cs)
theorem cs5h {l:List Hear}: ∀r∈l.map Hear.cs,r.length=5:=by
 intro r hr;obtain ⟨x,_,rfl⟩:=List.mem_map.1 hr;rfl
def hearB (h:Hear):Bool:=decide (0≤h.node∧h.node≤63)&&decide (0≤h.type∧h.type≤8)&&decide (0≤h.prog∧h.prog≤63)
def withB (h x:Hear):Bool:=x.node==h.node&&(x.type==h.type&&(x.capture==h.capture&&(h.once==h.once&&x.prog==h.prog)))
def forB (node kind:Int) (cap:Bool) (h:Hear):Bool:=h.node==node&&(h.type==kind&&(h.capture==cap))
end Go.Eng
namespace Go.Eng
open Go Go.Proofs
theorem listen_in (n m:Int):Fn Tryz.prog 288 [.i n,.i m] (.b (decide (0≤n∧n≤m))):=by
 refine Fn_of tt_ok Tryz.func288 rfl (by decide) Tryz.ntmps288 rfl ?_
 repeat' ((conv=>whnf);(first
  |refine Br_dec (fun h=>?_) (fun h=>?_)
  |refine fin0 rfl ?_))
 all_goals (simp only[AV.d.injEq,D.bool.injEq];grind)
theorem listen_may (h:Hear):Fn Tryz.prog 224 [aggD h.cs] (.b (hearB h)):=by
 refine Fn_of tt_ok Tryz.func224 rfl (by decide) Tryz.ntmps224 rfl ?_
 repeat' ((conv=>whnf);(first
  |refine Br_dec (fun h=>?_) (fun h=>?_)
  |refine Fn.use (listen_in _ _) rfl rfl ?_
  |refine fin0 rfl ?_))
 all_goals (simp only[AV.d.injEq,D.bool.injEq,hearB] at *;simp_all)
 all_goals (intros;omega)
theorem listen_at1 (h x:Hear):Tri Tryz.prog 290 ([]++[aggD x.cs]++[.ptr 0 0]) [some (.row (h.cs.map .d))] fun v H'=>v=.b (withB h x)∧H'=[some (.row (h.cs.map .d))]:=by
 refine Tri_of (m:=1) tt_ok Tryz.func290 rfl (by decide) Tryz.ntmps290 (by rfl) rfl ?_
 repeat' ((conv=>whnf);(first
  |refine finT rfl rfl (by repeat (first|exact trivial|refine⟨⟨rfl,rfl⟩,?_⟩)) ?_))
 rfl
theorem indexFunc_hear (l:List Hear) (g:FuncId) (fs cs:List AV) (H:Heap) (p:Hear→Bool) (hp: ∀a∈l,Tri Tryz.prog g (fs++[aggD a.cs]++cs) H fun v H'=>v=.b (p a)∧H'=H):
  Tri Tryz.prog 289 [.d (hearsD l),.clos (.func g) fs cs] H fun v H'=>v=.i (ix p l)∧H'=H:=by
 refine Tri_of (m:=H.length) tt_ok Tryz.func289 rfl (by decide) Tryz.ntmps289 (by rfl) rfl ?_
 refine Len_in (fun hlen=>?_)
 simp only[List.length_map] at hlen
 refine W_loop (fun μ s=> ∃(k:Nat),k≤l.length∧μ=l.length-k∧(∀ j (h:j<l.length),j<k→p l[j]=false)∧
   s=⟨[(0,.d (hearsD l)),(1,.clos (.func g) fs cs),(7,.i (List.map Hear.cs l).length),(8,.i k)],19,H,H.length,[]⟩) l.length
  ⟨_,?_,0,by simp,by simp,by simp,rfl⟩ ?_
 ·exact Wk_env (by repeat (first|exact trivial|refine⟨rfl,?_⟩))
 rintro μ s1 ⟨k,hk,rfl,hno,rfl⟩
 refine W_run tt_ok ?_
 refine Br_dec (fun h=>?_) (fun h=>?_)
 ·simp at h
  refine Idx_in (l[k]).cs (by simp[h]) (by omega) rfl ?_
  have hd:=ix_drop p l k hno hk
  rw[List.drop_eq_getElem_cons h] at hd
  refine Tri.use (hp l[k] (List.getElem_mem h)) ?_
  refine Br_split (fun hq=>?_) (fun hq=>?_)
  ·repeat' ((conv=>whnf);(first
   |refine finR ?_))
   simp only[AV.d.injEq,D.int.injEq,true_and,hd,ix]
   simp[hq]
  ·repeat' ((conv=>whnf);(first
   |refine Back_in _ _ ⟨k+1,by omega,rfl,?_,rfl⟩ (by omega) (Wk_env (by repeat (first|exact trivial|refine⟨rfl,?_⟩)))
   |refine ArK_in (wrap_i64 (by omega) (by omega)) ?_))
   intro j hj hjk
   rcases Nat.lt_succ_iff_lt_or_eq.1 hjk with h1|h1
   ·exact hno j hj h1
   ·subst h1;exact hq
 ·simp at h
  have hd:=ix_drop p l k hno hk
  rw[List.drop_eq_nil_of_le h] at hd
  repeat' ((conv=>whnf);(first
   |refine finR ?_))
  simp[hd,ix]
def hearIx (l:List Hear) (h:Hear):Int:=ix (withB h) l
theorem listen_at (l:List Hear) (h:Hear):Fn Tryz.prog 225 [.d (hearsD l),aggD h.cs] (.i (hearIx l h)):=by
 refine Fn_of tt_ok Tryz.func225 rfl (by decide) Tryz.ntmps225 rfl ?_
 refine Tri.use (indexFunc_hear l _ [] [.ptr 0 0] _ (withB h) fun a _=>listen_at1 h a) ?_
 repeat' ((conv=>whnf);(first
  |refine fin0 rfl ?_))
 rfl
end Go.Eng
namespace Go.Eng
open Go Go.Proofs
theorem listen_For (l:List Hear) (node kind:Int) (cap:Bool) (hl:l.length≤1000):Fn Tryz.prog 362 [.d (hearsD l),.i node,.i kind,.b cap] (.d (hearsD (l.filter (forB node kind cap)))):=by
 refine Fn_of tt_ok Tryz.func362 rfl (by decide) Tryz.ntmps362 rfl ?_
 have hml:(l.map Hear.cs).length=l.length:=by simp
 repeat' ((conv=>whnf);(first
  |refine Len_in (fun hlen=>?_)))
 refine W_loop (fun μ s=> ∃(k:Nat),k≤l.length∧μ=l.length-k∧
   s=⟨[(0,.d (hearsD l)),(1,.i node),(2,.i kind),(3,.b cap),(9,AccV 0 5 (((l.take k).filter (forB node kind cap)).map Hear.cs)),(12,.d (hearsD l)),(13,.i (List.map Hear.cs l).length),(14,.i k)],40,[AccB (((l.take k).filter (forB node kind cap)).map Hear.cs)],0,[]⟩) l.length ⟨_,?_,0,by omega,by omega,rfl⟩ ?_
 ·rw[List.take_zero,List.filter_nil,List.map_nil,AccV_nil,AccB_nil]
  exact Wk.trans Wk_pad (Wk_env (by repeat (first|exact trivial|refine⟨rfl,?_⟩)))
 rintro μ s1 ⟨k,hk,rfl,rfl⟩
 refine W_run tt_ok ?_
 by_cases hlt:k<l.length
 ·have htk:l.take (k+1)=l.take k++[l[k]]:=List.take_succ_eq_append_getElem hlt
  have hfl:((l.take k).filter (forB node kind cap)).length≤l.length:=Nat.le_trans (List.length_filter_le _ _) (by simp;omega)
  generalize hx:l[k]=x at *
  have hidx:(l.map Hear.cs)[(k:Int).toNat]? =some x.cs:=by simp[hlt,hx]
  have hf1:forB node kind cap x=true→((l.take (k+1)).filter (forB node kind cap))=(l.take k).filter (forB node kind cap)++[x]:=fun h=>by rw[htk,List.filter_append];simp[h]
  have hf0:forB node kind cap x=false→((l.take (k+1)).filter (forB node kind cap))=(l.take k).filter (forB node kind cap):=fun h=>by rw[htk,List.filter_append];simp[h]
  generalize hacc:(l.take k).filter (forB node kind cap)=acc at *
  have hml2:(acc.map Hear.cs).length=acc.length:=by simp
  have hr5: ∀r∈acc.map Hear.cs,r.length=5:=cs5h
  have ha:=Acc_app (b:=0) (sz:=5) (rows:=acc.map Hear.cs) (new:=[x.cs]) (by simp)
  obtain ⟨xn,xt,xc,xo,xp⟩:=x
  dsimp only[Hear.cs] at *
  cases hf:forB node kind cap ⟨xn,xt,xc,xo,xp⟩
  ·have e:=hf0 hf
   have keep0: ∀(ρ:Env) (y:List AV),EnvIn ρ [(0,.d (hearsD l)),(1,.i node),(2,.i kind),(3,.b cap),(9,AccV 0 5 (acc.map Hear.cs)),(12,.d (hearsD l)),(13,.i (List.map Hear.cs l).length),(14,.i (k+1:Nat))]→
     Wk ⟨ρ,40,[AccB (acc.map Hear.cs),some (.row y)],0,[]⟩ ⟨[(0,.d (hearsD l)),(1,.i node),(2,.i kind),(3,.b cap),(9,AccV 0 5 (acc.map Hear.cs)),(12,.d (hearsD l)),(13,.i (List.map Hear.cs l).length),(14,.i (k+1:Nat))],40,[AccB (acc.map Hear.cs)],0,[]⟩:=fun ρ y h=>by
    refine Wk.trans (Wk_env h) ?_
    by_cases h0:acc.map Hear.cs=[]
    ·rw[h0,AccV_nil,AccB_nil]
     exact Wk_ren [0] rfl rfl trivial (by repeat (first|exact trivial|refine⟨⟨rfl,rfl⟩,?_⟩)) (by omega) (by omega)
    ·rw[AccV_cons h0,AccB_cons h0]
     exact Wk_ren [0] rfl rfl ⟨⟨by rw[renB_row];rfl,lowB_row _ _⟩,trivial⟩ (by repeat (first|exact trivial|refine⟨⟨rfl,rfl⟩,?_⟩)) (by omega) (by omega)
   unfold forB at hf
   dsimp only at hf
   by_cases h1:xn=node
   ·by_cases h2:xt=kind
    ·subst h1 h2
     have h3:(xc==cap)=false:=by simpa using hf
     repeat' ((conv=>whnf);(first
      |refine Br_false h3 ?_
      |refine Br_true (beqT (by omega)) ?_
      |refine Br_true (decide_eq_true (by omega)) ?_
      |refine Idx_in _ hidx (by omega) rfl ?_
      |refine Back_in _ _ ⟨k+1,by omega,rfl,rfl⟩ (by omega) ?_
      |refine ArK_in (wrap_i64 (by omega) (by omega)) ?_))
     rw[e]
     exact keep0 _ _ (by repeat (first|exact trivial|refine⟨rfl,?_⟩))
    ·subst h1
     repeat' ((conv=>whnf);(first
      |refine Br_true (beqT (by omega)) ?_
      |refine Br_false (beqF (by omega)) ?_
      |refine Br_true (decide_eq_true (by omega)) ?_
      |refine Idx_in _ hidx (by omega) rfl ?_
      |refine Back_in _ _ ⟨k+1,by omega,rfl,rfl⟩ (by omega) ?_
      |refine ArK_in (wrap_i64 (by omega) (by omega)) ?_))
     rw[e]
     exact keep0 _ _ (by repeat (first|exact trivial|refine⟨rfl,?_⟩))
   ·repeat' ((conv=>whnf);(first
    |refine Br_false (beqF (by omega)) ?_
    |refine Br_true (decide_eq_true (by omega)) ?_
    |refine Idx_in _ hidx (by omega) rfl ?_
    |refine Back_in _ _ ⟨k+1,by omega,rfl,rfl⟩ (by omega) ?_
    |refine ArK_in (wrap_i64 (by omega) (by omega)) ?_))
    rw[e]
    exact keep0 _ _ (by repeat (first|exact trivial|refine⟨rfl,?_⟩))
  ·have e:=hf1 hf
   unfold forB at hf
   dsimp only at hf
   simp only[Bool.and_eq_true,beq_iff_eq] at hf
   obtain ⟨rfl,rfl,rfl⟩:=hf
   have h3:(xc==xc)=true:=by simp
   repeat' ((conv=>whnf);(first
    |refine Br_true h3 ?_
    |refine Br_true (beqT (by omega)) ?_
    |refine Br_true (decide_eq_true (by omega)) ?_
    |refine Idx_in _ hidx (by omega) rfl ?_
    |refine force_in ?_))
   refine Ch_r ?_
   conv=>whnf
   refine App_acc (acc.map Hear.cs) [[.int .i64 xn,.int .i64 xt,.bool xc,.bool xo,.int .i64 xp]] rfl rfl rfl rfl (by simp) hr5 (by intro r hr;simp at hr;subst hr;rfl) (by rw[hml2];simp only[List.length_cons,List.length_nil];omega) (Nat.le_of_ble_eq_true rfl) ?_
   repeat' ((conv=>whnf);(first
    |refine Back_in _ _ ⟨k+1,by omega,rfl,rfl⟩ (by omega) ?_
    |refine ArK_in (wrap_i64 (by omega) (by omega)) ?_))
   rw[e,List.map_append]
   show Wk _ ⟨[(0,.d (hearsD l)),(1,.i xn),(2,.i xt),(3,.b xc),(9,AccV 0 5 (acc.map Hear.cs++[[.int .i64 xn,.int .i64 xt,.bool xc,.bool xo,.int .i64 xp]])),_,_,_],40,[AccB (acc.map Hear.cs++[[.int .i64 xn,.int .i64 xt,.bool xc,.bool xo,.int .i64 xp]])],0,[]⟩
   rw[ha.1,ha.2]
   exact Wk_ren [2] rfl rfl ⟨⟨by rw[renB_row];rfl,lowB_row _ _⟩,trivial⟩ (by repeat (first|exact trivial|refine⟨⟨rfl,rfl⟩,?_⟩)) (by omega) (by omega)
 ·have hkl:k=l.length:=by omega
  subst hkl
  rw[List.take_length]
  repeat' ((conv=>whnf);(first
   |refine Br_false (decide_eq_false (by omega)) ?_
   |refine finD (F:=[0]) (FV_acc _ rfl cs5h)
   |refine force_in ?_))
end Go.Eng
namespace Go.Eng
open Go Go.Proofs
theorem clone_ints (l:List Int) (hl:l.length≤1000):Fn Tryz.prog 190 [.d (ints l)] (.d (ints l)):=by
 refine Fn_of tt_ok Tryz.func190 rfl (by decide) Tryz.ntmps190 rfl ?_
 have e:(List.map intCs l).length=l.length:=by simp
 refine Nil_in fun b hb=>?_
 cases b
 ·skip
  refine Ch_r ?_
  skip
  refine Ch_r (Need_in ⟨Nat.le_trans (Nat.mul_le_mul_right _ (by omega:_≤1200)) (Nat.le_of_ble_eq_true rfl),by unfold LB;omega,cs1⟩ ?_)
  repeat' ((conv=>whnf);(first
   |refine fin0 rfl ?_))
  rfl
 ·have h0:l=[]:=by
   cases l with
   |nil=>rfl
   |cons a r=>have:=hb (by simp);simp at this
  subst h0
  repeat' ((conv=>whnf);(first
   |refine finD (F:=[]) .nsl))
theorem clone_attrs (l:List Attr) (hl:l.length≤1000):Fn Tryz.prog 259 [.d (attrsD l)] (.d (attrsD l)):=by
 refine Fn_of tt_ok Tryz.func259 rfl (by decide) Tryz.ntmps259 rfl ?_
 have e:(List.map Attr.cs l).length=l.length:=by simp
 refine Nil_in fun b hb=>?_
 cases b
 ·skip
  refine Ch_r ?_
  skip
  refine Ch_r (Need_in ⟨Nat.le_trans (Nat.mul_le_mul_right _ (by omega:_≤1200)) (Nat.le_of_ble_eq_true rfl),by unfold LB;omega,csl⟩ ?_)
  repeat' ((conv=>whnf);(first
   |refine fin0 rfl ?_))
  rfl
 ·have h0:l=[]:=by
   cases l with
   |nil=>rfl
   |cons a r=>have:=hb (by simp);simp at this
  subst h0
  repeat' ((conv=>whnf);(first
   |refine finD (F:=[]) .nsl))
theorem clone_tree (t:Tree) (hne:t≠[]) (hl:t.length≤1000):Tri Tryz.prog 258 [.d (treeD t)] [] fun v H=>v=.msl 0 0 t.length t.length 7∧H=[some (.row ((t.map Node.cs).flatten.map .d))]:=by
 refine Tri_of (m:=0) tt_ok Tryz.func258 rfl (by decide) Tryz.ntmps258 (by rfl) rfl ?_
 have e:(List.map Node.cs t).length=t.length:=by simp
 have hn:t.map Node.cs≠[]:=by simpa using hne
 refine Nil_in fun b hb=>?_
 obtain rfl:=hb hn
 skip
 refine Ch_r ?_
 skip
 refine App_esl (t.map Node.cs) rfl rfl hn cs7 (by omega) (Nat.le_of_ble_eq_true rfl) ?_
 repeat' ((conv=>whnf);(first
  |(refine finQ ⟨by rw[← e];rfl,rfl⟩)))
end Go.Eng
namespace Go.Eng
open Go Go.Proofs
theorem splice_same {cs:List AV} {o:Nat} {v:AV} (h:cs[o]? =some v):splice cs o [v]=cs:=by
 simp only[splice]
 apply List.ext_getElem?
 intro i
 rw[List.getElem?_set]
 split
 ·subst_vars
  rw[if_pos (List.getElem?_eq_some_iff.1 h).1,h]
 ·rfl
def tabT (t:Tree):List AV:=(t.map Node.cs).flatten.map .d
theorem tabT_len (t:Tree):(tabT t).length=t.length * 7:=by
 unfold tabT;rw[List.length_map,flatten_len _ cs7,List.length_map]
theorem tabT_get (t:Tree) (k j:Nat) (hk:k<t.length) (x:D) (hx:(t[k]).cs[j]? =some x) (hj:j<7):(tabT t)[k * 7+j]? =some (.d x):=by
 unfold tabT
 exact cell_flat (t.map Node.cs) k j _ x cs7 (by simp[hk]) hx hj
end Go.Eng
namespace Go.Eng
open Go Go.Proofs
end Go.Eng
namespace Go.Eng
open Go Go.Proofs
theorem Fn_any_of {P:Program} {f:FuncId} {args:List AV} (h:Tri P f args [] fun _ H=>H=[]):Fn P f args .any:=by
 (unfold Fn;simp only[Tri_eq] at *)
 refine⟨h.1,fun p σ w vs hH hs hv=>(h.2 p σ w vs hH hs hv).mono ?_⟩
 rintro e w' ⟨v,x,p',σ',H',a,b,c,d,e',g'⟩
 exact⟨v,.any,p',σ',H',a,b,c,d,.any v,rfl,g'⟩
theorem byte_ok {s:ByteArray} {n:Int} {K:UInt8→Prop} {m:Nat} (hm:s.data.toList.length=m) (h0:0≤n) (h1:n<m) (hK: ∀c,K c):ByteK s n K:=
 Byte_in (s.data.toList[n.toNat]'(by omega)) (List.getElem?_eq_getElem (by omega)) h0 (hK _)
theorem u8_in (e:Int):0≤IntKind.u8.wrap e∧IntKind.u8.wrap e<(256:Nat):=by
 simp only[IntKind.wrap,IntKind.signed,IntKind.bits];simp;omega
theorem Len64 (n:Int):Fn Tryz.prog 200 [.d (.int .u64 n)] .any:=by
 refine Fn_any_of ?_
 refine Tri_of (m:=0) tt_ok Tryz.func200 rfl (by decide) Tryz.ntmps200 (by rfl) rfl ?_
 repeat' ((conv=>whnf);(first
  |refine Br_dec (fun h=>?_) (fun h=>?_)
  |refine Need_in (by omega) ?_
  |refine byte_ok (m:=256) (by kernel_rfl) (u8_in _).1 (u8_in _).2 (fun c=>?_)
  |refine ArK_any ?_
  |refine finQ rfl))
theorem bitsLen (n:Int):Fn Tryz.prog 287 [.d (.int .u64 n)] .any:=by
 refine Fn_any_of ?_
 refine Tri_of (m:=0) tt_ok Tryz.func287 rfl (by decide) Tryz.ntmps287 (by rfl) rfl ?_
 repeat' ((conv=>whnf);(first
  |refine Fn.use (Len64 _) rfl rfl ?_
  |refine finQ rfl))
end Go.Eng
namespace Go.Eng
open Go Go.Proofs
theorem App_msl {ei:TI} {H:Heap} {b sz n:Nat} {x:AV} {B:Prop} {K:AV→Heap→Prop} (rows new:List (List D)) (hne:rows≠[]) (hnl:n=rows.length) (hb:H[b]? =some (some (.row (rows.flatten.map .d)))) (hx:newLen x=some new.length)
  (hc:newCells H ei.size x=some (new.flatten.map .d)) (hsz:sz=ei.size)
  (hn:new≠[]) (hrs: ∀r∈rows,r.length=ei.size) (hrn: ∀r∈new,r.length=ei.size) (hlim:rows.length+new.length≤1000000) (hby:ei.bytes≤1000)
  (hK:K (.msl H.length 0 (rows.length+new.length) (rows.length+new.length) ei.size) (H.set b none++[some (.row ((rows++new).flatten.map .d))])):ChK (appK ei H (.msl b 0 n n sz) x K) B:=by
 subst hnl
 have:=App_acc (ei:=ei) (H:=H) (b:=b) (sz:=sz) (x:=x) (B:=B) (K:=K) rows new (by rw[AccB_cons hne];exact hb) hx hc hsz hn hrs hrn hlim hby hK
 rwa [AccV_cons hne] at this
theorem map_d_inj: ∀{a b:List D},a.map AV.d=b.map AV.d→a=b:=by
 intro a
 induction a with
 |nil=>intro b h;cases b with
  |nil=>rfl
  |cons x y=>simp at h
 |cons x r ih=>intro b h;cases b with
  |nil=>simp at h
  |cons y q=>
   simp only[List.map_cons,List.cons.injEq,AV.d.injEq] at h
   rw[h.1,ih h.2]
theorem renL_set (g:Nat→Nat): ∀(l:List AV) (i:Nat) (x:AV),renL g (l.set i x)=(renL g l).set i (ren g x):=by
 intro l
 induction l with
 |nil=>intro i x;rfl
 |cons a r ih=>intro i x;cases i with
  |zero=>rfl
  |succ i=>simp[renL,ih]
theorem hmap_nil (n i:Nat):hmap [] n i=n+i:=by show i-0+n=n+i;omega
end Go.Eng
namespace Go.Eng
open Go Go.Proofs
theorem cloneOwn_hears (l:List Hear) (hne:l≠[]) (hl:l.length≤1000):Tri Tryz.prog 226 [.d (hearsD l)] [] fun v H=>v=.msl 0 0 l.length l.length 5∧H=[some (.row ((l.map Hear.cs).flatten.map .d))]:=by
 refine Tri_of (m:=0) tt_ok Tryz.func226 rfl (by decide) Tryz.ntmps226 (by rfl) rfl ?_
 have e:(List.map Hear.cs l).length=l.length:=by simp
 have hn:l.map Hear.cs≠[]:=by simpa using hne
 refine Nil_in fun b hb=>?_
 obtain rfl:=hb hn
 skip
 refine Ch_r ?_
 skip
 refine App_esl (l.map Hear.cs) rfl rfl hn cs5h (by omega) (Nat.le_of_ble_eq_true rfl) ?_
 repeat' ((conv=>whnf);(first
  |(refine finQ ⟨by rw[← e];rfl,rfl⟩)))
theorem cloneOwn_hnil:Tri Tryz.prog 226 [.d (hearsD [])] [] fun v H=>v=.esl∧H=[]:=by
 refine Tri_of (m:=0) tt_ok Tryz.func226 rfl (by decide) Tryz.ntmps226 (by rfl) rfl ?_
 refine Nil_in fun b hb=>?_
 cases b
 ·skip
  refine Ch_r ?_
  skip
  refine Ch_l ?_
  repeat' ((conv=>whnf);(first
   |refine Need_in rfl ?_
   |refine finQ ⟨rfl,rfl⟩))
 ·repeat' ((conv=>whnf);(first
  |refine finW (Fin_all (F:=[]) .nesl) ⟨rfl,rfl⟩))
def addR (l:List Hear) (h:Hear):List Hear×Int:=
 if hearB h=false then (l,1) else if 0≤hearIx l h then (l,0) else if 64≤l.length then (l,4) else (l++[h],0)
theorem listen_Add (l:List Hear) (h:Hear) (hl:l.length≤1000):Fn Tryz.prog 157 [.d (hearsD l),aggD h.cs] (.tup [.d (hearsD (addR l h).1),.i (addR l h).2]):=by
 refine Fn_of tt_ok Tryz.func157 rfl (by decide) Tryz.ntmps157 rfl ?_
 have h1:=listen_may h
 have h2:=listen_at l h
 have hml:(l.map Hear.cs).length=l.length:=by simp
 cases hb:hearB h
 ·have e:addR l h=(l,1):=by unfold addR;rw[if_pos hb]
  rw[hb] at h1
  rw[e]
  repeat' ((conv=>whnf);(first
   |refine Fn.use (h1) rfl rfl ?_
   |refine fin0 rfl ?_))
  rfl
 rw[hb] at h1
 have eS:addR l h=if 0≤hearIx l h then (l,0) else if 64≤l.length then (l,4) else (l++[h],0):=by unfold addR;rw[if_neg (by rw[hb];simp)]
 rw[eS]
 generalize hearIx l h=i at *
 by_cases hi:0≤i
 ·rw[if_pos hi]
  repeat' ((conv=>whnf);(first
   |refine Br_true (decide_eq_true (by omega)) ?_
   |refine Fn.use (h1) rfl rfl ?_
   |refine Fn.use (h2) rfl rfl ?_
   |refine fin0 rfl ?_))
  rfl
 rw[if_neg hi]
 by_cases h64:64≤l.length
 ·rw[if_pos h64]
  repeat' ((conv=>whnf);(first
   |refine Br_true (decide_eq_true (by omega)) ?_
   |refine Br_false (decide_eq_false (by omega)) ?_
   |refine Len_in (fun hlen=>?_)
   |refine Fn.use (h1) rfl rfl ?_
   |refine Fn.use (h2) rfl rfl ?_
   |refine fin0 rfl ?_))
  rfl
 rw[if_neg h64]
 by_cases hn:l=[]
 ·subst hn
  repeat' ((conv=>whnf);(first
   |refine Br_false (decide_eq_false (by omega)) ?_
   |refine Len_in (fun hlen=>?_)
   |refine Fn.use (h1) rfl rfl ?_
   |refine Fn.use (h2) rfl rfl ?_
   |refine W_draw 1 tt_ok mixed (by kernel_rfl) ?_
   |refine CallP_in (r:=.esl) [] (fun K' hK=>Tri.call cloneOwn_hnil [] rfl rfl trivial rfl rfl rfl rfl rfl rfl hK) ?_))
  refine App_esl [h.cs] rfl rfl (by simp) (by intro r hr;simp at hr;subst hr;rfl) (by simp) (Nat.le_of_ble_eq_true rfl) ?_
  conv=>whnf
  exact finD (F:=[1]) (FV_tup2 (FV_tab [h.cs] rfl rfl rfl (by intro r hr;simp at hr;subst hr;rfl)) (.same _ rfl))
 ·have hne:l.map Hear.cs≠[]:=by simpa using hn
  have hcl:=cloneOwn_hears l hn hl
  have hlen:(l.map Hear.cs++[h.cs]).length=l.length+1:=by simp
  repeat' ((conv=>whnf);(first
   |refine Br_false (decide_eq_false (by omega)) ?_
   |refine Len_in (fun hlen=>?_)
   |refine Fn.use (h1) rfl rfl ?_
   |refine Fn.use (h2) rfl rfl ?_
   |refine W_draw 1 tt_ok mixed (by kernel_rfl) ?_
   |refine CallP_in (r:=.msl 1 0 l.length l.length 5) [some (.row ((l.map Hear.cs).flatten.map .d))] (fun K' hK=>Tri.tab hcl rfl hK) ?_))
  refine App_msl (l.map Hear.cs) [h.cs] hne hml.symm rfl rfl rfl rfl (by simp) cs5h (by intro r hr;simp at hr;subst hr;rfl) (by simp;omega) (Nat.le_of_ble_eq_true rfl) ?_
  conv=>whnf
  have e2:hearsD (l++[h])=.sl (l.map Hear.cs++[h.cs]):=by simp[hearsD]
  rw[e2]
  exact finD (F:=[2]) (FV_tup2 (FV_tab _ rfl rfl (by simp) (by intro r hr;rcases List.mem_append.1 hr with hr|hr;exact cs5h r hr;simp at hr;subst hr;rfl)) (.same _ rfl))
end Go.Eng
namespace Go.Eng
open Go Go.Proofs
end Go.Eng
namespace Go.Eng
open Go Go.Proofs
theorem only_int (l:List Int) (x:D) (g:FuncId) (p:Int→Bool) (hl:l.length≤1000) (hp: ∀k∈l,Tri Tryz.prog g ([]++[.i k]++[.ptr 0 0]) [some (.row [.d x])] fun v H'=>v=.b (p k)∧H'=[some (.row [.d x])]):
  Tri Tryz.prog 268 [.d (ints l),.clos (.func g) [] [.ptr 0 0]] [some (.row [.d x])] fun v H'=>v=.tup [.d (ints (l.filter p)),.d (ints (l.filter fun k=> !p k))]∧H'=[some (.row [.d x])]:=by
 refine Tri_of (m:=1) tt_ok Tryz.func268 rfl (by decide) Tryz.ntmps268 (by rfl) rfl ?_
 have hml:(l.map intCs).length=l.length:=by simp
 repeat' ((conv=>whnf);(first
  |refine Len_in (fun hlen=>?_)))
 refine W_loop (fun μ s=> ∃(k:Nat),k≤l.length∧μ=l.length-k∧
   s=⟨[(1,.clos (.func g) [] [.ptr 0 0]),(4,AccV 1 1 (((l.take k).filter p).map intCs)),(5,AccV 2 1 (((l.take k).filter fun k=> !p k).map intCs)),(8,.d (ints l)),(9,.i (List.map intCs l).length),(10,.i k)],28,[some (.row [.d x]),AccB (((l.take k).filter p).map intCs),AccB (((l.take k).filter fun k=> !p k).map intCs)],1,[]⟩) l.length ⟨_,?_,0,by omega,by omega,rfl⟩ ?_
 ·rw[List.take_zero,List.filter_nil,List.filter_nil,List.map_nil,AccV_nil,AccV_nil,AccB_nil]
  exact Wk.trans Wk_pad (Wk.trans Wk_pad (Wk_env (by repeat (first|exact trivial|refine⟨rfl,?_⟩))))
 rintro μ s1 ⟨k,hk,rfl,rfl⟩
 refine W_run tt_ok ?_
 by_cases hlt:k<l.length
 ·have htk:l.take (k+1)=l.take k++[l[k]]:=List.take_succ_eq_append_getElem hlt
  have hc:=hp l[k] (List.getElem_mem hlt)
  have hidx:(l.map intCs)[(k:Int).toNat]? =some (intCs l[k]):=by simp[hlt]
  have l1:((l.take k).filter p).length≤l.length:=Nat.le_trans (List.length_filter_le _ _) (by simp;omega)
  have l2:((l.take k).filter fun k=> !p k).length≤l.length:=Nat.le_trans (List.length_filter_le _ _) (by simp;omega)
  have y1:p l[k]=true→(l.take (k+1)).filter p=(l.take k).filter p++[l[k]]∧((l.take (k+1)).filter fun k=> !p k)=(l.take k).filter fun k=> !p k:=fun h=>by rw[htk,List.filter_append,List.filter_append];simp[h]
  have y0:p l[k]=false→(l.take (k+1)).filter p=(l.take k).filter p∧((l.take (k+1)).filter fun k=> !p k)=((l.take k).filter fun k=> !p k)++[l[k]]:=fun h=>by rw[htk,List.filter_append,List.filter_append];simp[h]
  generalize (l.take k).filter p=A at *
  generalize ((l.take k).filter fun k=> !p k)=B at *
  have mA:(A.map intCs).length=A.length:=by simp
  have mB:(B.map intCs).length=B.length:=by simp
  have hA:=Acc_app (b:=1) (sz:=1) (rows:=A.map intCs) (new:=[intCs l[k]]) (by simp)
  have hB:=Acc_app (b:=2) (sz:=1) (rows:=B.map intCs) (new:=[intCs l[k]]) (by simp)
  cases hq:p l[k]
  ·rw[hq] at hc
   obtain ⟨e1,e2⟩:=y0 hq
   repeat' ((conv=>whnf);(first
    |refine Br_true (decide_eq_true (by omega)) ?_
    |refine Idx_in _ hidx (by omega) rfl ?_
    |refine Tri.call hc [0] rfl rfl ⟨⟨rfl,rfl⟩,trivial⟩ rfl rfl rfl rfl rfl rfl ?_
    |refine force_in ?_))
   refine Ch_r ?_
   conv=>whnf
   refine App_acc (B.map intCs) [intCs l[k]] rfl rfl rfl rfl (by simp) cs1 (by intro r hr;simp at hr;subst hr;rfl) (by rw[mB];simp only[List.length_cons,List.length_nil];omega) (Nat.le_of_ble_eq_true rfl) ?_
   repeat' ((conv=>whnf);(first
    |refine Back_in _ _ ⟨k+1,by omega,rfl,rfl⟩ (by omega) ?_
    |refine ArK_in (wrap_i64 (by omega) (by omega)) ?_))
   rw[e1,e2,List.map_append]
   show Wk _ ⟨[_,(4,AccV 1 1 (A.map intCs)),(5,AccV 2 1 (B.map intCs++[intCs l[k]])),_,_,_],28,[_,AccB (A.map intCs),AccB (B.map intCs++[intCs l[k]])],1,[]⟩
   rw[hB.1,hB.2]
   exact Wk_ren [0,1,3] rfl rfl ⟨⟨rfl,rfl⟩,HLe_acc rfl ⟨⟨by rw[renB_row];rfl,lowB_row _ _⟩,trivial⟩⟩ ⟨⟨rfl,rfl⟩,⟨ren_acc rfl,low_acc (by decide)⟩,⟨rfl,rfl⟩,⟨rfl,rfl⟩,⟨rfl,rfl⟩,⟨rfl,rfl⟩,trivial⟩ (by decide) (by intro i hi;match i,hi with|0,_=>rfl)
  ·rw[hq] at hc
   obtain ⟨e1,e2⟩:=y1 hq
   repeat' ((conv=>whnf);(first
    |refine Br_true (decide_eq_true (by omega)) ?_
    |refine Idx_in _ hidx (by omega) rfl ?_
    |refine Tri.call hc [0] rfl rfl ⟨⟨rfl,rfl⟩,trivial⟩ rfl rfl rfl rfl rfl rfl ?_
    |refine force_in ?_))
   refine Ch_r ?_
   conv=>whnf
   refine App_acc (A.map intCs) [intCs l[k]] rfl rfl rfl rfl (by simp) cs1 (by intro r hr;simp at hr;subst hr;rfl) (by rw[mA];simp only[List.length_cons,List.length_nil];omega) (Nat.le_of_ble_eq_true rfl) ?_
   repeat' ((conv=>whnf);(first
    |refine Back_in _ _ ⟨k+1,by omega,rfl,rfl⟩ (by omega) ?_
    |refine ArK_in (wrap_i64 (by omega) (by omega)) ?_))
   rw[e1,e2,List.map_append]
   show Wk _ ⟨[_,(4,AccV 1 1 (A.map intCs++[intCs l[k]])),(5,AccV 2 1 (B.map intCs)),_,_,_],28,[_,AccB (A.map intCs++[intCs l[k]]),AccB (B.map intCs)],1,[]⟩
   rw[hA.1,hA.2]
   exact Wk_ren [0,3,2] rfl rfl ⟨⟨rfl,rfl⟩,⟨by rw[renB_row];rfl,lowB_row _ _⟩,HLe_acc rfl trivial⟩ ⟨⟨rfl,rfl⟩,⟨rfl,rfl⟩,⟨ren_acc rfl,low_acc (by decide)⟩,⟨rfl,rfl⟩,⟨rfl,rfl⟩,⟨rfl,rfl⟩,trivial⟩ (by decide) (by intro i hi;match i,hi with|0,_=>rfl)
 ·have hkl:k=l.length:=by omega
  subst hkl
  rw[List.take_length]
  repeat' ((conv=>whnf);(first
   |refine Br_false (decide_eq_false (by omega)) ?_
   |(refine finW (v':=.tup [.d (ints (l.filter p)),.d (ints (l.filter fun k=> !p k))]) (H':=[some (.row [.d x])]) (Fin_fz [0] [1,2] rfl rfl rfl ⟨⟨_,rfl,.row _ _ (Nat.le_refl _) fun i a b ha hb=>by rw[ha] at hb;injection hb with hb;subst hb;match i with|0=>(simp at ha;subst ha;exact .same _ rfl)|i+1=>simp at ha⟩,trivial⟩ (FV_tup2 (FV_accF _ (by simp) rfl cs1) (FV_accF _ (by simp) rfl cs1)) (by decide) (by intro i hi;match i,hi with|0,_=>rfl)) ⟨rfl,rfl⟩)
   |refine force_in ?_))
end Go.Eng
namespace Go.Eng
open Go
structure Shn where
 node:Int
 inv:Int
def Shn.cs (s:Shn):List D:=[.int .i64 s.node,.int .i64 s.inv]
abbrev shnD (l:List Shn):D:=.sl (l.map Shn.cs)
theorem cs2s {l:List Shn}: ∀r∈l.map Shn.cs,r.length=2:=by
 intro r hr;obtain ⟨x,_,rfl⟩:=List.mem_map.1 hr;rfl
structure View where
 tree:Tree
 opn:List Int
 modal:List Int
 pops:List Shn
 top:List Int
end Go.Eng
namespace Go.Eng
open Go Go.Proofs
theorem only_shn (l:List Shn) (x:D) (g:FuncId) (p:Shn→Bool) (hl:l.length≤1000) (hp: ∀k∈l,Tri Tryz.prog g ([]++[aggD k.cs]++[.ptr 0 0]) [some (.row [.d x])] fun v H'=>v=.b (p k)∧H'=[some (.row [.d x])]):
  Tri Tryz.prog 269 [.d (shnD l),.clos (.func g) [] [.ptr 0 0]] [some (.row [.d x])] fun v H'=>v=.tup [.d (shnD (l.filter p)),.d (shnD (l.filter fun k=> !p k))]∧H'=[some (.row [.d x])]:=by
 refine Tri_of (m:=1) tt_ok Tryz.func269 rfl (by decide) Tryz.ntmps269 (by rfl) rfl ?_
 have hml:(l.map Shn.cs).length=l.length:=by simp
 repeat' ((conv=>whnf);(first
  |refine Len_in (fun hlen=>?_)))
 refine W_loop (fun μ s=> ∃(k:Nat),k≤l.length∧μ=l.length-k∧
   s=⟨[(1,.clos (.func g) [] [.ptr 0 0]),(4,AccV 1 2 (((l.take k).filter p).map Shn.cs)),(5,AccV 2 2 (((l.take k).filter fun k=> !p k).map Shn.cs)),(8,.d (shnD l)),(9,.i (List.map Shn.cs l).length),(10,.i k)],28,[some (.row [.d x]),AccB (((l.take k).filter p).map Shn.cs),AccB (((l.take k).filter fun k=> !p k).map Shn.cs)],1,[]⟩) l.length ⟨_,?_,0,by omega,by omega,rfl⟩ ?_
 ·rw[List.take_zero,List.filter_nil,List.filter_nil,List.map_nil,AccV_nil,AccV_nil,AccB_nil]
  exact Wk.trans Wk_pad (Wk.trans Wk_pad (Wk_env (by repeat (first|exact trivial|refine⟨rfl,?_⟩))))
 rintro μ s1 ⟨k,hk,rfl,rfl⟩
 refine W_run tt_ok ?_
 by_cases hlt:k<l.length
 ·have htk:l.take (k+1)=l.take k++[l[k]]:=List.take_succ_eq_append_getElem hlt
  have hc:=hp l[k] (List.getElem_mem hlt)
  have hidx:(l.map Shn.cs)[(k:Int).toNat]? =some ((l[k]).cs):=by simp[hlt]
  have l1:((l.take k).filter p).length≤l.length:=Nat.le_trans (List.length_filter_le _ _) (by simp;omega)
  have l2:((l.take k).filter fun k=> !p k).length≤l.length:=Nat.le_trans (List.length_filter_le _ _) (by simp;omega)
  have y1:p l[k]=true→(l.take (k+1)).filter p=(l.take k).filter p++[l[k]]∧((l.take (k+1)).filter fun k=> !p k)=(l.take k).filter fun k=> !p k:=fun h=>by rw[htk,List.filter_append,List.filter_append];simp[h]
  have y0:p l[k]=false→(l.take (k+1)).filter p=(l.take k).filter p∧((l.take (k+1)).filter fun k=> !p k)=((l.take k).filter fun k=> !p k)++[l[k]]:=fun h=>by rw[htk,List.filter_append,List.filter_append];simp[h]
  generalize (l.take k).filter p=A at *
  generalize ((l.take k).filter fun k=> !p k)=B at *
  have mA:(A.map Shn.cs).length=A.length:=by simp
  have mB:(B.map Shn.cs).length=B.length:=by simp
  have hA:=Acc_app (b:=1) (sz:=2) (rows:=A.map Shn.cs) (new:=[(l[k]).cs]) (by simp)
  have hB:=Acc_app (b:=2) (sz:=2) (rows:=B.map Shn.cs) (new:=[(l[k]).cs]) (by simp)
  cases hq:p l[k]
  ·rw[hq] at hc
   obtain ⟨e1,e2⟩:=y0 hq
   repeat' ((conv=>whnf);(first
    |refine Br_true (decide_eq_true (by omega)) ?_
    |refine Idx_in _ hidx (by omega) rfl ?_
    |refine Tri.call hc [0] rfl rfl ⟨⟨rfl,rfl⟩,trivial⟩ rfl rfl rfl rfl rfl rfl ?_
    |refine force_in ?_))
   refine Ch_r ?_
   conv=>whnf
   refine App_acc (B.map Shn.cs) [(l[k]).cs] rfl rfl rfl rfl (by simp) cs2s (by intro r hr;simp at hr;subst hr;rfl) (by rw[mB];simp only[List.length_cons,List.length_nil];omega) (Nat.le_of_ble_eq_true rfl) ?_
   repeat' ((conv=>whnf);(first
    |refine Back_in _ _ ⟨k+1,by omega,rfl,rfl⟩ (by omega) ?_
    |refine ArK_in (wrap_i64 (by omega) (by omega)) ?_))
   rw[e1,e2,List.map_append]
   show Wk _ ⟨[_,(4,AccV 1 2 (A.map Shn.cs)),(5,AccV 2 2 (B.map Shn.cs++[(l[k]).cs])),_,_,_],28,[_,AccB (A.map Shn.cs),AccB (B.map Shn.cs++[(l[k]).cs])],1,[]⟩
   rw[hB.1,hB.2]
   exact Wk_ren [0,1,4] rfl rfl ⟨⟨rfl,rfl⟩,HLe_acc rfl ⟨⟨by rw[renB_row];rfl,lowB_row _ _⟩,trivial⟩⟩ ⟨⟨rfl,rfl⟩,⟨ren_acc rfl,low_acc (by decide)⟩,⟨rfl,rfl⟩,⟨rfl,rfl⟩,⟨rfl,rfl⟩,⟨rfl,rfl⟩,trivial⟩ (by decide) (by intro i hi;match i,hi with|0,_=>rfl)
  ·rw[hq] at hc
   obtain ⟨e1,e2⟩:=y1 hq
   repeat' ((conv=>whnf);(first
    |refine Br_true (decide_eq_true (by omega)) ?_
    |refine Idx_in _ hidx (by omega) rfl ?_
    |refine Tri.call hc [0] rfl rfl ⟨⟨rfl,rfl⟩,trivial⟩ rfl rfl rfl rfl rfl rfl ?_
    |refine force_in ?_))
   refine Ch_r ?_
   conv=>whnf
   refine App_acc (A.map Shn.cs) [(l[k]).cs] rfl rfl rfl rfl (by simp) cs2s (by intro r hr;simp at hr;subst hr;rfl) (by rw[mA];simp only[List.length_cons,List.length_nil];omega) (Nat.le_of_ble_eq_true rfl) ?_
   repeat' ((conv=>whnf);(first
    |refine Back_in _ _ ⟨k+1,by omega,rfl,rfl⟩ (by omega) ?_
    |refine ArK_in (wrap_i64 (by omega) (by omega)) ?_))
   rw[e1,e2,List.map_append]
   show Wk _ ⟨[_,(4,AccV 1 2 (A.map Shn.cs++[(l[k]).cs])),(5,AccV 2 2 (B.map Shn.cs)),_,_,_],28,[_,AccB (A.map Shn.cs++[(l[k]).cs]),AccB (B.map Shn.cs)],1,[]⟩
   rw[hA.1,hA.2]
   exact Wk_ren [0,4,2] rfl rfl ⟨⟨rfl,rfl⟩,⟨by rw[renB_row];rfl,lowB_row _ _⟩,HLe_acc rfl trivial⟩ ⟨⟨rfl,rfl⟩,⟨rfl,rfl⟩,⟨ren_acc rfl,low_acc (by decide)⟩,⟨rfl,rfl⟩,⟨rfl,rfl⟩,⟨rfl,rfl⟩,trivial⟩ (by decide) (by intro i hi;match i,hi with|0,_=>rfl)
 ·have hkl:k=l.length:=by omega
  subst hkl
  rw[List.take_length]
  repeat' ((conv=>whnf);(first
   |refine Br_false (decide_eq_false (by omega)) ?_
   |(refine finW (v':=.tup [.d (shnD (l.filter p)),.d (shnD (l.filter fun k=> !p k))]) (H':=[some (.row [.d x])]) (Fin_fz [0] [1,2] rfl rfl rfl ⟨⟨_,rfl,.row _ _ (Nat.le_refl _) fun i a b ha hb=>by rw[ha] at hb;injection hb with hb;subst hb;match i with|0=>(simp at ha;subst ha;exact .same _ rfl)|i+1=>simp at ha⟩,trivial⟩ (FV_tup2 (FV_accF _ (by simp) rfl cs2s) (FV_accF _ (by simp) rfl cs2s)) (by decide) (by intro i hi;match i,hi with|0,_=>rfl)) ⟨rfl,rfl⟩)
   |refine force_in ?_))
end Go.Eng
namespace Go.Eng
open Go Go.Proofs
theorem top_node (s:Shn):Fn Tryz.prog 277 [aggD s.cs] (.i s.node):=by
 refine Fn_of tt_ok Tryz.func277 rfl (by decide) Tryz.ntmps277 rfl ?_
 repeat' ((conv=>whnf);(first
  |refine fin0 rfl ?_))
 rfl
theorem top_each (l:List Shn) (hl:l.length≤1000):Fn Tryz.prog 276 [.d (shnD l),.d (.fn 277)] (.d (ints (l.map Shn.node))):=by
 refine Fn_of tt_ok Tryz.func276 rfl (by decide) Tryz.ntmps276 rfl ?_
 have hml:(l.map Shn.cs).length=l.length:=by simp
 repeat' ((conv=>whnf);(first
  |refine Len_in (fun hlen=>?_)))
 refine W_loop (fun μ s=> ∃(k:Nat),k≤l.length∧μ=l.length-k∧
   s=⟨[(1,.d (.fn 277)),(5,AccV 0 1 (((l.take k).map Shn.node).map intCs)),(8,.d (shnD l)),(9,.i (List.map Shn.cs l).length),(10,.i k)],22,[AccB (((l.take k).map Shn.node).map intCs)],0,[]⟩) l.length ⟨_,?_,0,by omega,by omega,rfl⟩ ?_
 ·rw[List.take_zero,List.map_nil,List.map_nil,AccV_nil,AccB_nil]
  exact Wk.trans Wk_pad (Wk_env (by repeat (first|exact trivial|refine⟨rfl,?_⟩)))
 rintro μ s1 ⟨k,hk,rfl,rfl⟩
 refine W_run tt_ok ?_
 by_cases hlt:k<l.length
 ·have htk:l.take (k+1)=l.take k++[l[k]]:=List.take_succ_eq_append_getElem hlt
  have e:((l.take (k+1)).map Shn.node).map intCs=((l.take k).map Shn.node).map intCs++[intCs (l[k]).node]:=by rw[htk,List.map_append,List.map_append];rfl
  have hidx:(l.map Shn.cs)[(k:Int).toNat]? =some (l[k]).cs:=by simp[hlt]
  have hn:=top_node l[k]
  have mA:(((l.take k).map Shn.node).map intCs).length=k:=by simp;omega
  have hA:=Acc_app (b:=0) (sz:=1) (rows:=((l.take k).map Shn.node).map intCs) (new:=[intCs (l[k]).node]) (by simp)
  have hr1: ∀r∈((l.take k).map Shn.node).map intCs,r.length=1:=cs1
  generalize ((l.take k).map Shn.node).map intCs=A at *
  repeat' ((conv=>whnf);(first
   |refine Br_true (decide_eq_true (by omega)) ?_
   |refine Idx_in _ hidx (by omega) rfl ?_
   |refine Fn.use (hn) rfl rfl ?_
   |refine force_in ?_))
  refine Ch_r ?_
  conv=>whnf
  refine App_acc A [intCs (l[k]).node] rfl rfl rfl rfl (by simp) hr1 (by intro r hr;simp at hr;subst hr;rfl) (by rw[mA];simp only[List.length_cons,List.length_nil];omega) (Nat.le_of_ble_eq_true rfl) ?_
  repeat' ((conv=>whnf);(first
   |refine Back_in _ _ ⟨k+1,by omega,rfl,rfl⟩ (by omega) ?_
   |refine ArK_in (wrap_i64 (by omega) (by omega)) ?_))
  rw[e,hA.1,hA.2]
  exact Wk_ren [2] rfl rfl ⟨⟨by rw[renB_row];rfl,lowB_row _ _⟩,trivial⟩ (by repeat (first|exact trivial|refine⟨⟨rfl,rfl⟩,?_⟩)) (by omega) (by omega)
 ·have hkl:k=l.length:=by omega
  subst hkl
  rw[List.take_length]
  repeat' ((conv=>whnf);(first
   |refine Br_false (decide_eq_false (by omega)) ?_
   |refine finD (F:=[0]) (FV_acc _ rfl cs1)
   |refine force_in ?_))
end Go.Eng
namespace Go.Eng
open Go
def pv (t:Tree):List D:=[treeD t,ints [],ints [],shnD [],ints []]
end Go.Eng
namespace Go.Eng
open Go Go.Proofs
def Seq1 (f:FuncId) (x:D) (xs:List AV):Prop:= ∀Y:Ysp,Y.xs=xs→YLaw Tryz.prog Y→
 Tri Tryz.prog f ([]++[.clos (.yield Y.l) [] []]++[.ptr 0 0]) ([some (.row [.d x])]++[some (.yl Y 0)]) fun v H1=>H1[1]? =some (some (.yl Y xs.length))∨H1[1]? =some (some (.yz Y))
def seqH1 (v:AV):Heap:=[none,some (.row [v]),some .dfr]
theorem appendSeq1_int (f:FuncId) (x:D) (l:List Int) (hs:Seq1 f x (l.map AV.i)) (hl:l.length≤10000):
  Tri Tryz.prog 366 [.nsl,.clos (.func f) [] [.ptr 0 0]] [some (.row [.d x])] fun v H=>v=.d (ints l)∧H=[none]:=by
 refine Tri_of (m:=1) tt_ok Tryz.func366 rfl (by decide) Tryz.ntmps366 (by rfl) rfl ?_
 conv=>whnf
 refine W_rangeA [0] (fs0:=[]) (cs0:=[.ptr 0 0]) (H0:=[some (.row [.d x])]) (l.map AV.i)
  (fun k H=>(k=0∧H=seqH1 .nsl)∨(0<k∧H=seqH1 (AccV 3 1 ((l.take k).map intCs))++[AccB ((l.take k).map intCs)]))
  (fun _ _=>False) rfl rfl rfl
  (by repeat (first|exact trivial|refine⟨⟨rfl,rfl⟩,?_⟩)) rfl rfl rfl rfl (by decide) (by decide) AsgOk_in rfl plain_ints ?_ (.inl ⟨rfl,rfl⟩) ?_ ?_ ?_
 ·intro Y hx hY
  exact hs Y hx hY
 ·rintro lp k z H' hx hH hlen hY
  obtain ⟨c,hc,rfl⟩: ∃c,l[k]? =some c∧z=.i c:=by
   rw[List.getElem?_map] at hx
   cases h:l[k]? with
   |none=>rw[h] at hx;simp at hx
   |some c=>rw[h] at hx;simp at hx;exact⟨c,rfl,hx.symm⟩
  have hlt:k<l.length:=(List.getElem?_eq_some_iff.1 hc).1
  have hce:l[k]=c:=(List.getElem?_eq_some_iff.1 hc).2
  have htk:(l.take (k+1)).map intCs=(l.take k).map intCs++[intCs c]:=by rw[List.take_succ_eq_append_getElem hlt,hce];simp
  have hrl:((l.take k).map intCs).length=k:=by simp;omega
  refine W_padH (H2:=seqH1 (AccV 3 1 ((l.take k).map intCs))++[AccB ((l.take k).map intCs)]) ?_ ?_
  ·rcases hH with ⟨rfl,rfl⟩|⟨_,rfl⟩
   ·exact .inr (by rw[List.take_zero,List.map_nil,AccV_nil,AccB_nil])
   ·exact .inl rfl
  have hr1: ∀r∈(l.take k).map intCs,r.length=1:=cs1
  generalize hrw:(l.take k).map intCs=rows at *
  refine W_run tt_ok ?_
  have ha:=Acc_app (b:=3) (sz:=1) (rows:=rows) (new:=[intCs c]) (by simp)
  repeat' ((conv=>whnf);(first
   |refine force_in ?_))
  refine Ch_r ?_
  conv=>whnf
  refine App_acc rows [intCs c] rfl rfl rfl rfl (by simp) hr1 (by intro r hr;simp at hr;subst hr;rfl) (by rw[hrl];simp only[List.length_cons,List.length_nil];omega) (Nat.le_of_ble_eq_true rfl) ?_
  skip
  conv=>whnf
  refine Rd_next (seqH1 (.msl 3 0 (rows.length+1) (rows.length+1) 1)++[some (.row ((rows++[intCs c]).flatten.map .d))]) (Wk_ren [0,1,2,4] rfl rfl (by refine⟨⟨rfl,rfl⟩,⟨rfl,rfl⟩,⟨by rw[renB_row];rfl,lowB_row _ _⟩,trivial⟩) (by repeat (first|exact trivial|refine⟨⟨rfl,rfl⟩,?_⟩)) (by show 3≤4;decide) (by show∀i,i<3→gOf [0,1,2,4] i=i;decide)) rfl (by simp[seqH1]) (.inr ⟨by omega,?_⟩)
  rw[htk,ha.1,ha.2]
  rfl
 ·rintro H' hH hlen hY
  rw[List.length_map] at hH
  rw[List.take_length] at hH
  rcases hH with ⟨h0,rfl⟩|⟨h0,rfl⟩
  ·have hnl:l=[]:=List.eq_nil_of_length_eq_zero h0
   subst hnl
   repeat' ((conv=>whnf);(first
    |refine finW (v':=.d (ints [])) (H':=[none]) (Fin_fz [0] [] rfl rfl rfl trivial .nsl (by decide) (by decide)) ⟨rfl,rfl⟩))
  ·have hne:l.map intCs≠[]:=by intro e;have:=congrArg List.length e;rw[List.length_map] at this;simp at this;subst this;simp at h0
   rw[AccV_cons hne,AccB_cons hne]
   repeat' ((conv=>whnf);(first
    |refine finW (v':=.d (ints l)) (H':=[none]) (Fin_fz [0] [3] rfl rfl rfl trivial (FV_tab _ rfl rfl rfl cs1) (by decide) (by decide)) ⟨rfl,rfl⟩))
 ·intro e H' c _ h
  exact h.elim
theorem collect1_int (f:FuncId) (x:D) (l:List Int) (hs:Seq1 f x (l.map AV.i)) (hl:l.length≤10000):
  Tri Tryz.prog 305 [.clos (.func f) [] [.ptr 0 0]] [some (.row [.d x])] fun v H=>v=.d (ints l)∧H=[none]:=by
 refine Tri_of (m:=1) tt_ok Tryz.func305 rfl (by decide) Tryz.ntmps305 (by rfl) rfl ?_
 have h:=appendSeq1_int f x l hs hl
 repeat' ((conv=>whnf);(first
  |refine Tri.use h ?_
  |refine finQ ⟨rfl,rfl⟩))
theorem values_int (l:List Int):Tri Tryz.prog 405 [.d (ints l)] [] fun v H=>v=.clos (.func 427) [] [.ptr 0 0]∧H=[some (.row [.d (ints l)])]:=by
 refine Tri_of (m:=0) tt_ok Tryz.func405 rfl (by decide) Tryz.ntmps405 (by rfl) rfl ?_
 repeat' ((conv=>whnf);(first
  |refine finR ?_))
 rfl
theorem values_seq (l:List Int):Seq1 427 (ints l) (l.map AV.i):=by
 intro Y hx hY
 refine Tri_of (m:=2) tt_ok Tryz.func427 rfl (by decide) Tryz.ntmps427 (by rfl) rfl ?_
 have hkl:(List.map intCs l).length=l.length:=by simp
 repeat' ((conv=>whnf);(first
  |refine Len_in (fun hlen=>?_)))
 refine W_loop (fun μ s=> ∃(j:Nat),j≤l.length∧μ=l.length-j∧
   s=⟨[(0,.clos (.yield Y.l) [] []),(1,.ptr 0 0),(5,.d (ints l)),(6,.i (List.map intCs l).length),(7,.i j)],16,[some (.row [.d (ints l)]),some (.yl Y j)],2,[]⟩) l.length
  ⟨_,?_,0,by omega,by omega,rfl⟩ ?_
 ·exact Wk_env (by repeat (first|exact trivial|refine⟨rfl,?_⟩))
 rintro μ s1 ⟨j,hj,rfl,rfl⟩
 refine W_run tt_ok ?_
 refine Br_dec (fun h=>?_) (fun h=>?_)
 ·rw[hkl] at h
  have hlt:j<l.length:=by omega
  have hidx:(l.map intCs)[(j:Int).toNat]? =some (intCs l[j]):=by simp[hlt]
  have hxk:Y.xs[j]? =some (.i l[j]):=by rw[hx,List.getElem?_map,List.getElem?_eq_getElem hlt];rfl
  repeat' ((conv=>whnf);(first
   |refine Idx_in _ hidx (by omega) rfl ?_
   |refine Yield_in 1 Y _ (.i l[j]) rfl rfl hY rfl rfl hxk ?_ ?_
   |refine Back_in _ _ ⟨j+1,by omega,rfl,rfl⟩ (by omega) (Wk_env (by repeat (first|exact trivial|refine⟨rfl,?_⟩)))
   |refine finQ (.inr rfl)
   |refine ArK_in (wrap_i64 (by omega) (by omega)) ?_))
 ·rw[hkl] at h
  have hjl:j=l.length:=by omega
  repeat' ((conv=>whnf);(first
   |refine finQ (.inl ?_)))
  rw[hjl]
  simp
theorem grow_nil:Fn Tryz.prog 345 [.nsl,.i 0] .nsl:=by
 refine Fn_of tt_ok Tryz.func345 rfl (by decide) Tryz.ntmps345 rfl ?_
 repeat' ((conv=>whnf);(first
  |refine fin0 rfl ?_
  |refine ArK_in (wrap_i64 (by omega) (by omega)) ?_))
 rfl
theorem concat_nil (R:List (List D)) (hR: ∀r∈R,r=[ints []]) (hl:R.length≤1000):Fn Tryz.prog 275 [.d (.sl R)] (.d (ints [])):=by
 refine Fn_of tt_ok Tryz.func275 rfl (by decide) Tryz.ntmps275 rfl ?_
 have hat: ∀k:Nat,k<R.length→R[(k:Int).toNat]? =some [ints []]:=fun k hk=>by
  have:R[k]? =some R[k]:=List.getElem?_eq_getElem hk
  rw[show ((k:Int).toNat)=k by omega,this,hR _ (List.getElem_mem hk)]
 repeat' ((conv=>whnf);(first
  |refine Len_in (fun hlen=>?_)))
 refine W_loop (fun μ s=> ∃(k:Nat),k≤R.length∧μ=R.length-k∧
   s=⟨[(0,.d (.sl R)),(3,.i 0),(9,.d (.sl R)),(10,.i R.length),(11,.i k)],36,[],0,[]⟩) R.length ⟨_,?_,0,by omega,by omega,rfl⟩ ?_
 ·exact Wk_env (by repeat (first|exact trivial|refine⟨rfl,?_⟩))
 rintro μ s1 ⟨k,hk,rfl,rfl⟩
 refine W_run tt_ok ?_
 by_cases hlt:k<R.length
 ·have hidx:=hat k hlt
  repeat' ((conv=>whnf);(first
   |refine Br_true (decide_eq_true (by omega)) ?_
   |refine Len_in (fun hlen=>?_)
   |refine Idx_in _ hidx (by omega) rfl ?_
   |refine Back_in _ _ ⟨k+1,by omega,rfl,rfl⟩ (by omega) (Wk_env (by repeat (first|exact trivial|refine⟨rfl,?_⟩)))
   |refine ArK_in (wrap_i64 (by omega) (by omega)) ?_))
 repeat' ((conv=>whnf);(first
  |refine Br_false (decide_eq_false (by omega)) ?_
  |refine Len_in (fun hlen=>?_)
  |refine Fn.use (grow_nil) rfl rfl ?_))
 refine W_loop (fun μ s=> ∃(k:Nat),k≤R.length∧μ=R.length-k∧
   s=⟨[(6,.d (ints [])),(25,.d (.sl R)),(26,.i R.length),(27,.i k)],36,[],0,[]⟩) R.length ⟨_,?_,0,by omega,by omega,rfl⟩ ?_
 ·exact Wk_fz [] [] rfl rfl rfl trivial ⟨.nsl,.same _ rfl,.same _ rfl,.same _ rfl,trivial⟩ (by omega) (by omega)
 rintro μ s1 ⟨k,hk,rfl,rfl⟩
 refine W_run tt_ok ?_
 by_cases hlt:k<R.length
 ·have hidx:=hat k hlt
  repeat' ((conv=>whnf);(first
   |refine Br_true (decide_eq_true (by omega)) ?_
   |refine Idx_in _ hidx (by omega) rfl ?_
   |refine Ch_r (Need_in rfl ?_)
   |refine Back_in _ _ ⟨k+1,by omega,rfl,rfl⟩ (by omega) (Wk_env (by repeat (first|exact trivial|refine⟨rfl,?_⟩)))
   |refine ArK_in (wrap_i64 (by omega) (by omega)) ?_))
 repeat' ((conv=>whnf);(first
  |refine Br_false (decide_eq_false (by omega)) ?_
  |refine fin0 rfl ?_))
 rfl
theorem insSort_nil:Fn Tryz.prog 461 [.d (ints []),.i 0,.i 0] (.tup []):=by
 refine Fn_of tt_ok Tryz.func461 rfl (by decide) Tryz.ntmps461 rfl ?_
 repeat' ((conv=>whnf);(first
  |refine ArK_in (wrap_i64 (by omega) (by omega)) ?_))
 refine W_loop (fun μ s=>s=⟨[(6,.i 1),(2,.i 0)],49,[],0,[]⟩) 0 ⟨_,?_,rfl⟩ ?_
 ·exact Wk_env (by repeat (first|exact trivial|refine⟨rfl,?_⟩))
 rintro μ s1 rfl
 refine W_run tt_ok ?_
 repeat' ((conv=>whnf);(first
  |refine fin0 rfl ?_))
 rfl
end Go.Eng
namespace Go.Eng
open Go Go.Proofs
def tagB (t:Tree) (n tag:Int):Bool:=decide ((nd t n).kind=1)&&decide ((nd t n).tag=tag)
def tixB (t:Tree) (n:Int):Bool:=(getP t n 0).2||(tagB t n 1||tagB t n 4)
def disB (t:Tree) (n:Int):Bool:=tagB t n 1&&(getP t n 1).2
def delB (t:Tree) (n:Int):Bool:=decide ((nd t n).root≠ -1)&&(getP t (nd t n).root 7).2
def ownB (t:Tree) (n:Int):Bool:= !(getP t n 2).2&&(!tagB t n 2&& !(getP t n 6).2)
def rendB (t:Tree) (n:Int) (L:List Int):Bool:=allOk t n&&(L.any (· ==0)&&L.all (ownB t))
def inertB (t:Tree) (n:Int) (L:List Int):Bool:=allOk t n&&L.any fun k=>(getP t k 3).2
def areaB (t:Tree) (n:Int) (L:List Int):Bool:=allOk t n&&(tixB t n&&(!disB t n&&(!delB t n&&(rendB t n L&& !inertB t n L))))
def ndC (t:Tree) (n:Int):List D:=pv t++[.int .i64 n]
theorem area_tag (t:Tree) (n tag:Int) (hn:isN t n=true):Fn Tryz.prog 415 [aggD (ndC t n),.i tag] (.b (tagB t n tag)):=by
 refine Fn_of tt_ok Tryz.func415 rfl (by decide) Tryz.ntmps415 rfl ?_
 unfold tagB
 repeat' ((conv=>whnf);(first
  |refine Br_beq (fun h=>?_) (fun h=>?_)
  |refine Idx_nd hn rfl ?_
  |refine fin0 rfl ?_))
 all_goals (simp only[AV.d.injEq,D.bool.injEq] at *;grind)
theorem area_index (t:Tree) (n:Int) (hn:isN t n=true):Fn Tryz.prog 414 [aggD (ndC t n)] (.tup [.i (getP t n 0).1,.b (tixB t n)]):=by
 refine Fn_of tt_ok Tryz.func414 rfl (by decide) Tryz.ntmps414 rfl ?_
 have h0:=attr_Get t n 0
 have h1:=area_tag t n 1 hn
 have h4:=area_tag t n 4 hn
 unfold tixB
 generalize getP t n 0=g at *
 obtain ⟨i,b⟩:=g
 cases b
 ·generalize tagB t n 1=b1 at *
  generalize tagB t n 4=b4 at *
  cases b1
  all_goals repeat' ((conv=>whnf);(first
   |refine Fn.use (h0) rfl rfl ?_
   |refine Fn.use (h1) rfl rfl ?_
   |refine Fn.use (h4) rfl rfl ?_
   |refine fin0 rfl ?_))
  all_goals rfl
 ·repeat' ((conv=>whnf);(first
  |refine Fn.use (h0) rfl rfl ?_
  |refine fin0 rfl ?_))
  rfl
theorem area_plain (t:Tree) (n:Int) (hn:isN t n=true):Fn Tryz.prog 375 [aggD (ndC t n)] (.b (!tixB t n)):=by
 refine Fn_of tt_ok Tryz.func375 rfl (by decide) Tryz.ntmps375 rfl ?_
 repeat' ((conv=>whnf);(first
  |refine Fn.use (area_index t n hn) rfl rfl ?_
  |refine fin0 rfl ?_))
 rfl
theorem area_disabled (t:Tree) (n:Int) (hn:isN t n=true):Fn Tryz.prog 376 [aggD (ndC t n)] (.b (disB t n)):=by
 refine Fn_of tt_ok Tryz.func376 rfl (by decide) Tryz.ntmps376 rfl ?_
 have h1:=area_tag t n 1 hn
 have h2:=attr_Has t n 1
 unfold disB
 generalize tagB t n 1=b1 at *
 cases b1
 all_goals repeat' ((conv=>whnf);(first
  |refine Fn.use (h1) rfl rfl ?_
  |refine Fn.use (h2) rfl rfl ?_
  |refine fin0 rfl ?_))
 all_goals rfl
theorem area_delegates (t:Tree) (n:Int) (hn:isN t n=true):Fn Tryz.prog 377 [aggD (ndC t n)] (.b (delB t n)):=by
 refine Fn_of tt_ok Tryz.func377 rfl (by decide) Tryz.ntmps377 rfl ?_
 have h2:=attr_Has t (nd t n).root 7
 unfold delB
 by_cases hr:(nd t n).root= -1
 ·rw[hr]
  repeat' ((conv=>whnf);(first
   |refine Br_false (bneF (by omega)) ?_
   |refine Idx_nd hn rfl ?_
   |refine fin0 rfl ?_))
  all_goals (first|rfl|(exfalso;omega))
 ·repeat' ((conv=>whnf);(first
  |refine Br_true (bneT (by omega)) ?_
  |refine Idx_nd hn rfl ?_
  |refine Fn.use (h2) rfl rfl ?_
  |refine fin0 rfl ?_))
  all_goals (first|(simp only[hr,ne_eq,not_false_eq_true,decide_true,Bool.true_and];done)|(exfalso;omega)|simp_all)
theorem area_of (t:Tree) (n:Int):Fn Tryz.prog 317 [.d (treeD t),.i n] (.tup [aggD (ndC t n),.b (allOk t n)]):=by
 refine Fn_of tt_ok Tryz.func317 rfl (by decide) Tryz.ntmps317 rfl ?_
 have h:=tree_Check t
 have e:(List.map Node.cs t).length=t.length:=by simp
 have hi:isN t n=decide (0≤n∧n<t.length):=by unfold isN;rfl
 unfold allOk
 rw[hi]
 cases hm:mayB t
 ·rw[hm] at h
  repeat' ((conv=>whnf);(first
   |refine finD (F:=[]) (FV_tups ⟨FV_aggs ⟨.same _ rfl,.nsl,.nsl,.nsl,.nsl,.same _ rfl,trivial⟩,sameB ?_,trivial⟩)
   |refine Fn.use (h) rfl rfl ?_))
  all_goals grind
 ·rw[hm] at h
  repeat' ((conv=>whnf);(first
   |refine finD (F:=[]) (FV_tups ⟨FV_aggs ⟨.same _ rfl,.nsl,.nsl,.nsl,.nsl,.same _ rfl,trivial⟩,sameB ?_,trivial⟩)
   |refine Br_dec (fun h=>?_) (fun h=>?_)
   |refine Len_in (fun hlen=>?_)
   |refine Fn.use (h) rfl rfl ?_))
  all_goals grind
theorem area_Delegates (t:Tree) (n:Int):Fn Tryz.prog 358 [.d (treeD t),.i n] (.b (allOk t n&&delB t n)):=by
 refine Fn_of tt_ok Tryz.func358 rfl (by decide) Tryz.ntmps358 rfl ?_
 have h1:=area_of t n
 cases ha:allOk t n
 ·rw[ha] at h1
  repeat' ((conv=>whnf);(first
   |refine Fn.use (h1) rfl rfl ?_
   |refine fin0 rfl ?_))
  rfl
 ·rw[ha] at h1
  have hn:isN t n=true:=by unfold allOk at ha;simp at ha;exact ha.2
  repeat' ((conv=>whnf);(first
   |refine Fn.use (h1) rfl rfl ?_
   |refine Fn.use (area_delegates t n hn) rfl rfl ?_
   |refine fin0 rfl ?_))
  rfl
end Go.Eng
namespace Go.Eng
open Go Go.Proofs
theorem copyT (t:Tree) (hne:t≠[]) (hs:SmallT t):Tri Tryz.prog 189 [.d (treeD t)] [] fun v H=>v=.msl 0 0 t.length t.length 7∧H=[some (.row (tabT t))]:=by
 refine Tri_of (m:=0) tt_ok Tryz.func189 rfl (by decide) Tryz.ntmps189 (by rfl) rfl ?_
 refine Tri.tab (clone_tree t hne hs.1) rfl ?_
 have hpush:(List.map Node.cs t).flatten.map AV.d=tabT t:=rfl
 rw[hpush]
 repeat' ((conv=>whnf);(first
  |refine Len_in (fun hlen=>?_)))
 refine W_loop (fun μ s=> ∃(k:Nat) (T:List AV),k≤t.length∧μ=t.length-k∧T=tabT t∧
   s=⟨[(3,.msl 0 0 t.length t.length 7),(8,.i t.length),(9,.i k)],34,[some (.row T)],0,[]⟩) t.length
  ⟨_,?_,0,_,by omega,by omega,rfl,rfl⟩ ?_
 ·exact Wk_env (by repeat (first|exact trivial|refine⟨rfl,?_⟩))
 rintro μ s1 ⟨k,T,hk,rfl,rfl,rfl⟩
 refine W_run tt_ok ?_
 by_cases hlt:k<t.length
 rotate_left
 ·repeat' ((conv=>whnf);(first
  |refine Br_false (decide_eq_false (by omega)) ?_
  |refine finQ ⟨rfl,rfl⟩))
 have hmk:=hs.2 _ (List.getElem_mem hlt)
 have hTl:(tabT t).length=t.length * 7:=tabT_len t
 have g3:(tabT t)[0+(k:Int).toNat * 7+3]? =some (.d (ints (t[k]).kids)):=by
  rw[show 0+(k:Int).toNat * 7+3=k * 7+3 by omega]
  exact tabT_get t k 3 hlt _ rfl (by omega)
 have g6:(tabT t)[0+(k:Int).toNat * 7+6]? =some (.d (attrsD (t[k]).attrs)):=by
  rw[show 0+(k:Int).toNat * 7+6=k * 7+6 by omega]
  exact tabT_get t k 6 hlt _ rfl (by omega)
 have e:splice (splice (tabT t) (0+(k:Int).toNat * 7+3) [.d (ints (t[k]).kids)]) (0+(k:Int).toNat * 7+6) [.d (attrsD (t[k]).attrs)]=tabT t:=by
  rw[splice_same g3,splice_same g6]
 repeat' ((conv=>whnf);(first
  |(refine Br_true (Nat.ble_eq_true_of_le (by rw[hTl];simp;omega)) ?_)
  |(refine Br_true (Nat.ble_eq_true_of_le (by rw[splice_length,hTl];simp;omega)) ?_)
  |refine Br_true (decide_eq_true (by omega)) ?_
  |refine W_draw 0 tt_ok mixed (by kernel_rfl) ?_
  |refine Cell_in _ g3 ?_
  |refine Cell_in _ g6 ?_
  |refine CallF_in (clone_ints _ hmk.1) rfl rfl ?_
  |refine CallF_in (clone_attrs _ hmk.2) rfl rfl ?_
  |refine Back_in _ _ ⟨k+1,_,by omega,rfl,e,rfl⟩ (by omega) (Wk_env (by repeat (first|exact trivial|refine⟨rfl,?_⟩)))
  |refine ArK_in (wrap_i64 (by omega) (by omega)) ?_))
theorem tree_Copy (t:Tree) (hne:t≠[]) (hs:SmallT t):Fn Tryz.prog 189 [.d (treeD t)] (.d (treeD t)):=
 Tri.fz (F:=[0]) (copyT t hne hs) (FV_tab (cs:=tabT t) (t.map Node.cs) rfl rfl (by simp) cs7)
theorem tree_fresh (kind tag:Int):Fn Tryz.prog 112 [.i kind,.i tag] (aggD (Node.cs ⟨kind,tag,-1,[],-1,-1,[]⟩)):=by
 refine Fn_of tt_ok Tryz.func112 rfl (by decide) Tryz.ntmps112 rfl ?_
 repeat' ((conv=>whnf);(first
  |refine finD (F:=[]) (FV_aggs ⟨.same _ rfl,.same _ rfl,.same _ rfl,.nsl,.same _ rfl,.same _ rfl,.nsl,trivial⟩)))
def newN (kind tag:Int):Node:=⟨kind,tag,-1,[],-1,-1,[]⟩
theorem tree_New:Fn Tryz.prog 80 [] (.d (treeD [newN 0 0])):=by
 refine Fn_of tt_ok Tryz.func80 rfl (by decide) Tryz.ntmps80 rfl ?_
 repeat' ((conv=>whnf);(first
  |refine Fn.use (tree_fresh 0 0) rfl rfl ?_
  |refine Ch_r ?_
  |refine fin0 rfl ?_))
 rfl
def makeR (t:Tree) (kind tag:Int):Tree×Int×Int:=
 if mayB t=false then ([],0,1)
 else if¬((kind=1∧0≤tag∧tag≤4)∨(kind=2∧tag=0)) then (t,0,3)
 else if t.length=64 then (t,0,4) else (t++[newN kind tag],(t.length:Int),0)
theorem tree_Make (t:Tree) (kind tag:Int) (hs:SmallT t):Fn Tryz.prog 140 [.d (treeD t),.i kind,.i tag] (.tup [.d (treeD (makeR t kind tag).1),.i (makeR t kind tag).2.1,.i (makeR t kind tag).2.2]):=by
 refine Fn_of tt_ok Tryz.func140 rfl (by decide) Tryz.ntmps140 rfl ?_
 have hM:=tree_may t
 have hin:=tree_in tag 0 4
 have e7:(List.map Node.cs t).length=t.length:=by simp
 cases hm:mayB t
 ·have e:makeR t kind tag=([],0,1):=by unfold makeR;rw[if_pos hm]
  rw[hm] at hM
  rw[e]
  by_cases hk:kind=1
  ·subst hk
   repeat' ((conv=>whnf);(first
    |refine Fn.use (hin) rfl rfl ?_
    |refine Fn.use (hM) rfl rfl ?_
    |refine finD (F:=[]) (FV_tups ⟨.nsl,.same _ rfl,.same _ rfl,trivial⟩)))
  ·repeat' ((conv=>whnf);(first
   |refine Br_false (beqF (by omega)) ?_
   |refine Fn.use (hM) rfl rfl ?_
   |refine finD (F:=[]) (FV_tups ⟨.nsl,.same _ rfl,.same _ rfl,trivial⟩)))
 rw[hm] at hM
 have hne:t≠[]:=by rintro rfl;simp[mayB] at hm
 have hfr:=tree_fresh kind tag
 by_cases hok:(kind=1∧0≤tag∧tag≤4)∨(kind=2∧tag=0)
 rotate_left
 ·have e:makeR t kind tag=(t,0,3):=by unfold makeR;rw[if_neg (by rw[hm];simp),if_pos hok]
  rw[e]
  by_cases hk:kind=1
  ·subst hk
   have hb:inB tag 0 4=false:=by unfold inB;simp at hok;simp;omega
   rw[hb] at hin
   repeat' ((conv=>whnf);(first
    |refine Fn.use (hin) rfl rfl ?_
    |refine Fn.use (hM) rfl rfl ?_
    |refine fin0 rfl ?_))
   all_goals (first|rfl|(exfalso;omega))
  ·by_cases hk2:kind=2
   ·subst hk2
    repeat' ((conv=>whnf);(first
     |refine Br_true (bneT (by omega)) ?_
     |refine Fn.use (hM) rfl rfl ?_
     |refine fin0 rfl ?_))
    all_goals (first|rfl|(exfalso;omega))
   ·repeat' ((conv=>whnf);(first
    |refine Br_false (beqF (by omega)) ?_
    |refine Br_true (bneT (by omega)) ?_
    |refine Fn.use (hM) rfl rfl ?_
    |refine fin0 rfl ?_))
    all_goals (first|rfl|(exfalso;omega))
 have eS:makeR t kind tag=if t.length=64 then (t,0,4) else (t++[newN kind tag],(t.length:Int),0):=by unfold makeR;rw[if_neg (by rw[hm];simp),if_neg (fun h=>h hok)]
 rw[eS]
 have hcp:=copyT t hne hs
 by_cases h64:t.length=64
 ·rw[if_pos h64]
  rcases hok with ⟨rfl,h1,h2⟩|⟨rfl,rfl⟩
  ·have hb:inB tag 0 4=true:=by unfold inB;simp;omega
   rw[hb] at hin
   repeat' ((conv=>whnf);(first
    |refine Br_true (beqT (by omega)) ?_
    |refine Len_in (fun hlen=>?_)
    |refine Fn.use (hin) rfl rfl ?_
    |refine Fn.use (hM) rfl rfl ?_
    |refine fin0 rfl ?_))
   all_goals (first|rfl|(exfalso;omega))
  ·repeat' ((conv=>whnf);(first
   |refine Br_true (beqT (by omega)) ?_
   |refine Len_in (fun hlen=>?_)
   |refine Fn.use (hM) rfl rfl ?_
   |refine fin0 rfl ?_))
   all_goals (first|rfl|(exfalso;omega))
 ·rw[if_neg h64]
  have hl:=may_len64 hm
  have hN:Node.cs (newN kind tag)=[.int .i64 kind,.int .i64 tag,.int .i64 (-1),ints [],.int .i64 (-1),.int .i64 (-1),attrsD []]:=rfl
  rcases hok with ⟨rfl,h1,h2⟩|⟨rfl,rfl⟩
  ·have hb:inB tag 0 4=true:=by unfold inB;simp;omega
   rw[hb] at hin
   rw[show treeD (t++[newN 1 tag])=.sl (t.map Node.cs++[(newN 1 tag).cs]) by simp[treeD]]
   repeat' ((conv=>whnf);(first
    |(refine App_msl (t.map Node.cs) [(newN 1 tag).cs] (by simpa using hne) (by simp) rfl rfl rfl rfl (by simp) cs7 (by intro r hr;simp at hr;subst hr;rfl) (by simp;omega) (Nat.le_of_ble_eq_true rfl) ?_)
    |refine Br_false (beqF (by omega)) ?_
    |refine Len_in (fun hlen=>?_)
    |refine Fn.use (hin) rfl rfl ?_
    |refine Fn.use (hM) rfl rfl ?_
    |refine Tri.tab (l:=(t.map Node.cs).flatten) hcp rfl ?_
    |refine Fn.use (hfr) rfl rfl ?_
    |refine Ch_r ?_))
   conv=>whnf
   exact finD (F:=[1]) (FV_tups ⟨FV_tab _ rfl rfl (by simp) (by intro r hr;rcases List.mem_append.1 hr with hr|hr;exact cs7 r hr;simp at hr;subst hr;rfl),sameI (by simp),.same _ rfl,trivial⟩)
  ·rw[show treeD (t++[newN 2 0])=.sl (t.map Node.cs++[(newN 2 0).cs]) by simp[treeD]]
   repeat' ((conv=>whnf);(first
    |(refine App_msl (t.map Node.cs) [(newN 2 0).cs] (by simpa using hne) (by simp) rfl rfl rfl rfl (by simp) cs7 (by intro r hr;simp at hr;subst hr;rfl) (by simp;omega) (Nat.le_of_ble_eq_true rfl) ?_)
    |refine Br_false (beqF (by omega)) ?_
    |refine Len_in (fun hlen=>?_)
    |refine Fn.use (hM) rfl rfl ?_
    |refine Tri.tab (l:=(t.map Node.cs).flatten) hcp rfl ?_
    |refine Fn.use (hfr) rfl rfl ?_
    |refine Ch_r ?_))
   conv=>whnf
   exact finD (F:=[1]) (FV_tups ⟨FV_tab _ rfl rfl (by simp) (by intro r hr;rcases List.mem_append.1 hr with hr|hr;exact cs7 r hr;simp at hr;subst hr;rfl),sameI (by simp),.same _ rfl,trivial⟩)
end Go.Eng
namespace Go.Eng
open Go Go.Proofs
def backXs {α:Type} (f:α→AV) (l:List α):List AV:=l.reverse.zipIdx.map fun x=>.tup [.i ((l.length:Int)-1-(x.2:Int)),f x.1]
theorem backXs_len {α:Type} (f:α→AV) (l:List α):(backXs f l).length=l.length:=by unfold backXs;simp
theorem backXs_get {α:Type} (f:α→AV) (l:List α) {k:Nat} (h:k<l.length):(backXs f l)[k]? =some (.tup [.i ((l.length:Int)-1-(k:Int)),f (l.reverse[k]'(by simpa using h))]):=by
 unfold backXs
 rw[List.getElem?_map,List.getElem?_zipIdx,List.getElem?_eq_getElem (by simpa using h)]
 simp
theorem backXs_args {α:Type} (f:α→AV) (hf: ∀x,dat (f x)=true) (l:List α): ∀(k:Nat) (x:AV),(backXs f l)[k]? =some x→(argsY x).length=2∧ ∀y∈argsY x,dat y=true:=by
 intro k x hx
 have hk:k<l.length:=by have:=(List.getElem?_eq_some_iff.1 hx).1;rwa [backXs_len] at this
 rw[backXs_get f l hk] at hx
 injection hx with hx
 subst hx
 refine⟨rfl,fun y hy=>?_⟩
 simp[argsY] at hy
 rcases hy with rfl|rfl
 ·rfl
 ·exact hf _
theorem rev_at {α:Type} {l:List α} {k:Nat} (h:k<l.length):l[((l.length:Int)-1-(k:Int)).toNat]? =some (l.reverse[k]'(by simpa using h)):=by
 rw[show ((l.length:Int)-1-(k:Int)).toNat=l.length-1-k by omega,List.getElem_reverse,List.getElem?_eq_getElem (by omega)]
theorem back_int (l:List Int):Tri Tryz.prog 294 [.d (ints l)] [] fun v H=>v=.clos (.func 359) [] [.ptr 0 0]∧H=[some (.row [.d (ints l)])]:=by
 refine Tri_of (m:=0) tt_ok Tryz.func294 rfl (by decide) Tryz.ntmps294 (by rfl) rfl ?_
 repeat' ((conv=>whnf);(first
  |refine finR ?_))
 rfl
theorem back_seq (l:List Int) (Y:Ysp) (hx:Y.xs=backXs AV.i l) (hY:YLaw Tryz.prog Y):
  Tri Tryz.prog 359 ([]++[.clos (.yield Y.l) [] []]++[.ptr 0 0]) ([some (.row [.d (ints l)])]++[some (.yl Y 0)]) fun v H1=>noY (H1.set 1 none)=true∧
   ((H1[1]? =some (some (.yl Y (backXs AV.i l).length))∧H1.set 1 none=[some (.row [.d (ints l)]),none])∨(H1[1]? =some (some (.yz Y))∧H1.set 1 none=[some (.row [.d (ints l)]),none])):=by
 rw[backXs_len]
 refine Tri_of (m:=2) tt_ok Tryz.func359 rfl (by decide) Tryz.ntmps359 (by rfl) rfl ?_
 have hkl:(List.map intCs l).length=l.length:=by simp
 repeat' ((conv=>whnf);(first
  |refine Len_in (fun hlen=>?_)
  |refine ArK_in (wrap_i64 (by omega) (by omega)) ?_))
 refine W_loop (fun μ s=> ∃(k:Nat),k≤l.length∧μ=l.length-k∧
   s=⟨[(0,.clos (.yield Y.l) [] []),(1,.ptr 0 0),(3,.i ((l.length:Int)-1-(k:Int)))],19,[some (.row [.d (ints l)]),some (.yl Y k)],2,[]⟩) l.length
  ⟨_,?_,0,by omega,by omega,rfl⟩ ?_
 ·refine Wk_env ⟨rfl,rfl,?_,trivial⟩
  show AV.i (((List.map intCs l).length:Int)-1)=AV.i _
  rw[hkl]
  simp
 rintro μ s1 ⟨k,hk,rfl,rfl⟩
 refine W_run tt_ok ?_
 by_cases hlt:k<l.length
 ·have hat:(l.map intCs)[((l.length:Int)-1-(k:Int)).toNat]? =some (intCs (l.reverse[k]'(by simpa using hlt))):=by rw[List.getElem?_map,rev_at hlt];rfl
  have hxk:=backXs_get AV.i l hlt
  rw[← hx] at hxk
  have e:(l.length:Int)-1-(k:Int)-1=(l.length:Int)-1-((k+1:Nat):Int):=by omega
  generalize l.reverse[k]'(by simpa using hlt)=c at *
  repeat' ((conv=>whnf);(first
   |refine Br_true (decide_eq_true (by omega)) ?_
   |refine Idx_in _ hat (by omega) rfl ?_
   |refine Yield_in 1 Y k (.tup [.i ((l.length:Int)-1-(k:Int)),.i c]) rfl rfl hY rfl rfl hxk ?_ ?_
   |refine Back_in _ _ ⟨k+1,by omega,rfl,rfl⟩ (by omega) ?_
   |refine finQ ⟨rfl,.inr ⟨rfl,rfl⟩⟩
   |refine ArK_in (wrap_i64 (by omega) (by omega)) ?_))
  refine Wk_env ⟨rfl,rfl,?_,trivial⟩
  show AV.i ((l.length:Int)-1-(k:Int)-1)=AV.i _
  rw[e]
 ·have hkl2:k=l.length:=by omega
  subst hkl2
  repeat' ((conv=>whnf);(first
   |refine Br_false (decide_eq_false (by omega)) ?_
   |refine finQ ⟨rfl,.inl ⟨rfl,rfl⟩⟩))
end Go.Eng
namespace Go.Eng
open Go Go.Proofs
theorem bitsLen0 (n:Int):Fn Tryz.prog 287 [.d (.int .u64 n)] .any:=bitsLen n
theorem pdq_nil (x:AV) (hx:lowL 0 [x]=true):Fn Tryz.prog 448 [.d (ints []),.i 0,.i 0,.any] (.tup []):=by
 refine Fn_of tt_ok Tryz.func448 rfl (by decide) Tryz.ntmps448 rfl ?_
 refine W_loop (fun μ s=>s=⟨[(0,.d (ints [])),(1,.i 0),(2,.i 0),(3,.any)],134,[],0,[]⟩) 0 ⟨_,?_,rfl⟩ ?_
 ·exact Wk_env (by repeat (first|exact trivial|refine⟨rfl,?_⟩))
 rintro μ s1 rfl
 refine W_run tt_ok ?_
 repeat' ((conv=>whnf);(first
  |refine Fn.use (insSort_nil) rfl rfl ?_
  |refine fin0 rfl ?_
  |refine ArK_in (wrap_i64 (by omega) (by omega)) ?_))
 rfl
theorem sort_nil:Fn Tryz.prog 426 [.d (ints [])] (.tup []):=by
 refine Fn_of tt_ok Tryz.func426 rfl (by decide) Tryz.ntmps426 rfl ?_
 repeat' ((conv=>whnf);(first
  |refine Len_in (fun hlen=>?_)
  |refine ArK_any ?_
  |refine Fn.use (bitsLen0 _) rfl rfl ?_
  |refine Fn.use (pdq_nil .any rfl) rfl rfl ?_
  |refine fin0 rfl ?_))
 rfl
theorem sorted_nil:Tri Tryz.prog 404 [.clos (.func 427) [] [.ptr 0 0]] [some (.row [.d (ints [])])] fun v H=>v=.d (ints [])∧H=[none]:=by
 refine Tri_of (m:=1) tt_ok Tryz.func404 rfl (by decide) Tryz.ntmps404 (by rfl) rfl ?_
 have h:=collect1_int 427 (ints []) [] (values_seq []) (by simp)
 repeat' ((conv=>whnf);(first
  |refine Tri.use h ?_
  |refine Fn.use (sort_nil) rfl rfl ?_
  |refine finQ ⟨rfl,rfl⟩))
theorem compact_nil:Fn Tryz.prog 428 [.d (ints [])] (.d (ints [])):=by
 refine Fn_of tt_ok Tryz.func428 rfl (by decide) Tryz.ntmps428 rfl ?_
 repeat' ((conv=>whnf);(first
  |refine Len_in (fun hlen=>?_)
  |refine fin0 rfl ?_))
 rfl
theorem equal_nil:Fn Tryz.prog 407 [.d (ints []),.d (ints [])] (.b true):=by
 refine Fn_of tt_ok Tryz.func407 rfl (by decide) Tryz.ntmps407 rfl ?_
 repeat' ((conv=>whnf);(first
  |refine Len_in (fun hlen=>?_)))
 refine W_loop (fun μ s=>s=⟨[(0,.d (ints [])),(1,.d (ints [])),(12,.i 0),(13,.i 0)],26,[],0,[]⟩) 0 ⟨_,?_,rfl⟩ ?_
 ·exact Wk_env (by repeat (first|exact trivial|refine⟨rfl,?_⟩))
 rintro μ s1 rfl
 refine W_run tt_ok ?_
 repeat' ((conv=>whnf);(first
  |refine fin0 rfl ?_))
 rfl
theorem apart_nil:Fn Tryz.prog 406 [.d (ints [])] (.b true):=by
 refine Fn_of tt_ok Tryz.func406 rfl (by decide) Tryz.ntmps406 rfl ?_
 repeat' ((conv=>whnf);(first
  |refine Len_in (fun hlen=>?_)
  |refine Fn.use (clone_ints [] (by simp)) rfl rfl ?_
  |refine Fn.use (sort_nil) rfl rfl ?_
  |refine Fn.use (compact_nil) rfl rfl ?_
  |refine fin0 rfl ?_))
 rfl
theorem concat2:Fn Tryz.prog 275 [.d (.sl [[ints []],[ints []]])] (.d (ints [])):=concat_nil _ (by simp) (by simp)
theorem concat3:Fn Tryz.prog 275 [.d (.sl [[ints []],[ints []],[ints []]])] (.d (ints [])):=concat_nil _ (by simp) (by simp)
theorem each_nil:Fn Tryz.prog 276 [.d (shnD []),.d (.fn 277)] (.d (ints [])):=top_each [] (by simp)
theorem top_high (t:Tree):Fn Tryz.prog 273 [aggD (pv t)] (.d (ints [])):=by
 refine Fn_of tt_ok Tryz.func273 rfl (by decide) Tryz.ntmps273 rfl ?_
 repeat' ((conv=>whnf);(first
  |refine W_draw 0 tt_ok mixed (by kernel_rfl) ?_
  |refine CallF_in (each_nil) rfl rfl ?_
  |refine CallF_in (concat2) rfl rfl ?_
  |refine fin0 rfl ?_))
 rfl
theorem top_may (t:Tree):Fn Tryz.prog 369 [aggD (pv t)] (.b true):=by
 refine Fn_of tt_ok Tryz.func369 rfl (by decide) Tryz.ntmps369 rfl ?_
 have ho: ∀g,Tri Tryz.prog 268 [.d (ints []),.clos (.func g) [] [.ptr 0 0]] [some (.row [.d (treeD t)])] fun v H'=>v=.tup [.d (ints []),.d (ints [])]∧H'=[some (.row [.d (treeD t)])]:=fun g=>only_int [] (treeD t) g (fun _=>true) (by simp) (by simp)
 have hs: ∀g,Tri Tryz.prog 269 [.d (shnD []),.clos (.func g) [] [.ptr 0 0]] [some (.row [.d (treeD t)])] fun v H'=>v=.tup [.d (shnD []),.d (shnD [])]∧H'=[some (.row [.d (treeD t)])]:=fun g=>only_shn [] (treeD t) g (fun _=>true) (by simp) (by simp)
 have h1:=ho 402
 have h2:=hs 403
 have h3:=top_high t
 have hv:=values_int []
 repeat' ((conv=>whnf);(first
  |refine Len_in (fun hlen=>?_)
  |refine Ch_r ?_
  |refine Fn.use (concat2) rfl rfl ?_
  |refine Tri.call h1 [1] rfl rfl ⟨⟨rfl,rfl⟩,trivial⟩ rfl rfl rfl rfl rfl rfl ?_
  |refine Tri.call h2 [1] rfl rfl ⟨⟨rfl,rfl⟩,trivial⟩ rfl rfl rfl rfl rfl rfl ?_
  |refine Fn.use (h3) rfl rfl ?_
  |refine Fn.use (apart_nil) rfl rfl ?_
  |refine Fn.use (equal_nil) rfl rfl ?_
  |refine Tri.call hv [] rfl rfl trivial rfl rfl rfl rfl rfl rfl ?_
  |refine Tri.call sorted_nil [2] rfl rfl ⟨⟨rfl,rfl⟩,trivial⟩ rfl rfl rfl rfl rfl rfl ?_
  |refine Tri.call sorted_nil [3] rfl rfl ⟨⟨rfl,rfl⟩,trivial⟩ rfl rfl rfl rfl rfl rfl ?_
  |refine fin0 rfl ?_))
 rfl
theorem top_Check (t:Tree):Fn Tryz.prog 307 [aggD (pv t)] (.i (if mayB t then 0 else 1)):=by
 refine Fn_of tt_ok Tryz.func307 rfl (by decide) Tryz.ntmps307 rfl ?_
 have h1:=tree_Check t
 have h2:=top_may t
 cases hm:mayB t
 ·rw[hm] at h1
  repeat' ((conv=>whnf);(first
   |refine Fn.use (h1) rfl rfl ?_
   |refine fin0 rfl ?_))
  rfl
 ·rw[hm] at h1
  repeat' ((conv=>whnf);(first
   |refine Fn.use (h1) rfl rfl ?_
   |refine Fn.use (h2) rfl rfl ?_
   |refine fin0 rfl ?_))
  rfl
theorem clone_shn0:Fn Tryz.prog 191 [.d (shnD [])] (.d (shnD [])):=by
 refine Fn_of tt_ok Tryz.func191 rfl (by decide) Tryz.ntmps191 rfl ?_
 refine Nil_in fun b hb=>?_
 cases b
 ·skip
  refine Ch_r ?_
  skip
  refine Ch_r (Need_in ⟨Nat.le_of_ble_eq_true rfl,by unfold LB;simp,by simp⟩ ?_)
  repeat' ((conv=>whnf);(first
   |refine fin0 rfl ?_))
  rfl
 ·repeat' ((conv=>whnf);(first
  |refine finD (F:=[]) .nsl))
theorem top_Copy (t:Tree) (hne:t≠[]) (hs:SmallT t):Fn Tryz.prog 117 [aggD (pv t)] (aggD (pv t)):=by
 refine Fn_of tt_ok Tryz.func117 rfl (by decide) Tryz.ntmps117 rfl ?_
 repeat' ((conv=>whnf);(first
  |refine W_draw 0 tt_ok mixed (by kernel_rfl) ?_
  |refine CallF_in (tree_Copy t hne hs) rfl rfl ?_
  |refine CallF_in (clone_ints [] (by simp)) rfl rfl ?_
  |refine CallF_in (clone_shn0) rfl rfl ?_
  |refine fin0 rfl ?_))
 rfl
theorem top_Fix (t:Tree) (hm:mayB t=true) (hs:SmallT t):Fn Tryz.prog 208 [aggD (pv t)] (.tup [aggD (pv t),.d (ints []),.i 0]):=by
 refine Fn_of tt_ok Tryz.func208 rfl (by decide) Tryz.ntmps208 rfl ?_
 have hne:t≠[]:=by rintro rfl;simp[mayB] at hm
 have hC:=tree_Check t
 rw[hm] at hC
 have hcp:=tree_Copy t hne hs
 have h1:Tri Tryz.prog 268 [.d (ints []),.clos (.func 266) [] [.ptr 0 0]] [some (.row [.d (treeD t)])] fun v H'=>v=.tup [.d (ints []),.d (ints [])]∧H'=[some (.row [.d (treeD t)])]:=only_int [] (treeD t) _ (fun _=>true) (by simp) (by simp)
 have h2:Tri Tryz.prog 269 [.d (shnD []),.clos (.func 270) [] [.ptr 0 0]] [some (.row [.d (treeD t)])] fun v H'=>v=.tup [.d (shnD []),.d (shnD [])]∧H'=[some (.row [.d (treeD t)])]:=only_shn [] (treeD t) _ (fun _=>true) (by simp) (by simp)
 have h3:Tri Tryz.prog 268 [.d (ints []),.clos (.func 274) [] [.ptr 0 0]] [some (.row [.d (ints [])])] fun v H'=>v=.tup [.d (ints []),.d (ints [])]∧H'=[some (.row [.d (ints [])])]:=only_int [] (ints []) _ (fun _=>true) (by simp) (by simp)
 have h4:=top_high t
 repeat' ((conv=>whnf);(first
  |refine Len_in (fun hlen=>?_)
  |refine Fn.use (hC) rfl rfl ?_
  |refine Fn.use (hcp) rfl rfl ?_
  |refine Tri.call h1 [2] rfl rfl ⟨⟨rfl,rfl⟩,trivial⟩ rfl rfl rfl rfl rfl rfl ?_
  |refine Tri.call h2 [2] rfl rfl ⟨⟨rfl,rfl⟩,trivial⟩ rfl rfl rfl rfl rfl rfl ?_))
 refine W_loop (fun μ s=>s=⟨[(1,.ptr 0 0),(2,.ptr 1 0),(5,.ptr 2 0),(6,.ptr 3 0),(8,.d (ints [])),(9,.d (ints [])),(10,.d (shnD [])),(50,.i 0),(51,.i 0)],86,
   [some (.row ((pv t).map .d)),some (.row [.nsl,.nsl,.nsl,.nsl,.nsl]),some (.row [.d (treeD t)]),some (.row ((pv t).map .d))],0,[]⟩) 0 ⟨_,?_,rfl⟩ ?_
 ·exact Wk_fz [0,1,2,3] [] rfl rfl rfl ⟨⟨_,rfl,FB_rows ⟨.same _ rfl,.same _ rfl,.same _ rfl,.same _ rfl,.same _ rfl,trivial⟩⟩,⟨_,rfl,FB_rows ⟨.same _ rfl,.same _ rfl,.same _ rfl,.same _ rfl,.same _ rfl,trivial⟩⟩,
   ⟨_,rfl,FB_rows ⟨.same _ rfl,trivial⟩⟩,⟨_,rfl,FB_rows ⟨.same _ rfl,.same _ rfl,.same _ rfl,.same _ rfl,.nsl,trivial⟩⟩,trivial⟩
   ⟨.ptr _ _ _ rfl,.ptr _ _ _ rfl,.ptr _ _ _ rfl,.ptr _ _ _ rfl,.same _ rfl,.same _ rfl,.same _ rfl,.same _ rfl,.same _ rfl,trivial⟩ (by omega) (by omega)
 rintro μ s1 rfl
 refine W_run tt_ok ?_
 repeat' ((conv=>whnf);(first
  |refine Fn.use (h4) rfl rfl ?_
  |refine Tri.call h3 [4] rfl rfl ⟨⟨rfl,rfl⟩,trivial⟩ rfl rfl rfl rfl rfl rfl ?_
  |refine W_draw 0 tt_ok mixed (by kernel_rfl) ?_
  |refine CallF_in (each_nil) rfl rfl ?_
  |refine CallF_in (concat3) rfl rfl ?_
  |refine fin0 rfl ?_))
 rfl
theorem top_Highest (t:Tree) (hm:mayB t=true):Fn Tryz.prog 459 [aggD (pv t)] (.i (-1)):=by
 refine Fn_of tt_ok Tryz.func459 rfl (by decide) Tryz.ntmps459 rfl ?_
 have h1:=top_Check t
 rw[hm] at h1
 repeat' ((conv=>whnf);(first
  |refine Fn.use (h1) rfl rfl ?_
  |refine Tri.call (back_int []) [] rfl rfl trivial rfl rfl rfl rfl rfl rfl ?_))
 refine W_rangeG [2] (fs0:=[]) (cs0:=[.ptr 0 0]) (H0:=[some (.row [.d (ints [])])]) (ps:=[11,12]) (backXs AV.i []) (fun _ H=>H=[some (.row ((pv t).map .d)),some (.row [.i 0]),none,some .dfr]) (fun _ _=>False) rfl rfl rfl
  (by repeat (first|exact trivial|refine⟨⟨rfl,rfl⟩,?_⟩)) rfl rfl rfl rfl (by decide) rfl (backXs_args AV.i (fun _=>rfl) []) (fun _ H=>H=[some (.row [.d (ints [])]),none]) (fun Y hx hY=>back_seq [] Y hx hY) rfl ?_ ?_ ?_
 ·intro l k x H' hx
  simp[backXs] at hx
 ·rintro H' H1 rfl rfl _ _
  repeat' ((conv=>whnf);(first
   |refine fin0 rfl ?_))
  rfl
 ·intro e H' H1 c _ h
  exact h.elim
end Go.Eng
namespace Go.Eng
open Go Go.Proofs
theorem render_may (t:Tree) (n:Int):Fn Tryz.prog 436 [aggD (pv t),.i n] (.b (allOk t n)):=by
 refine Fn_of tt_ok Tryz.func436 rfl (by decide) Tryz.ntmps436 rfl ?_
 have h:=top_Check t
 have e:(List.map Node.cs t).length=t.length:=by simp
 have hi:isN t n=decide (0≤n∧n<t.length):=by unfold isN;rfl
 unfold allOk
 rw[hi]
 cases hm:mayB t
 all_goals rw[hm] at h
 all_goals repeat' ((conv=>whnf);(first
  |refine Br_dec (fun h=>?_) (fun h=>?_)
  |refine Len_in (fun hlen=>?_)
  |refine Fn.use (h) rfl rfl ?_
  |refine fin0 rfl ?_))
 all_goals (simp only[AV.d.injEq,D.bool.injEq] at *;grind)
theorem inert_may (t:Tree) (n:Int):Fn Tryz.prog 440 [aggD (pv t),.i n] (.b (allOk t n)):=by
 refine Fn_of tt_ok Tryz.func440 rfl (by decide) Tryz.ntmps440 rfl ?_
 have h:=top_Check t
 have e:(List.map Node.cs t).length=t.length:=by simp
 have hi:isN t n=decide (0≤n∧n<t.length):=by unfold isN;rfl
 unfold allOk
 rw[hi]
 cases hm:mayB t
 all_goals rw[hm] at h
 all_goals repeat' ((conv=>whnf);(first
  |refine Br_dec (fun h=>?_) (fun h=>?_)
  |refine Len_in (fun hlen=>?_)
  |refine Fn.use (h) rfl rfl ?_
  |refine fin0 rfl ?_))
 all_goals (simp only[AV.d.injEq,D.bool.injEq] at *;grind)
theorem indexFunc_shn0 (g:FuncId) (fs cs:List AV) (H:Heap):Tri Tryz.prog 386 [.d (shnD []),.clos (.func g) fs cs] H fun v H'=>v=.i (-1)∧H'=H:=by
 refine Tri_of (m:=H.length) tt_ok Tryz.func386 rfl (by decide) Tryz.ntmps386 (by rfl) rfl ?_
 repeat' ((conv=>whnf);(first
  |refine Len_in (fun hlen=>?_)))
 refine W_loop (fun μ s=>s=⟨[(7,.i 0),(8,.i 0)],19,H,H.length,[]⟩) 0 ⟨_,?_,rfl⟩ ?_
 ·exact Wk_env (by repeat (first|exact trivial|refine⟨rfl,?_⟩))
 rintro μ s1 rfl
 refine W_run tt_ok ?_
 repeat' ((conv=>whnf);(first
  |refine finR ?_))
 rfl
theorem containsFunc_shn0 (g:FuncId) (fs cs:List AV) (H:Heap):Tri Tryz.prog 327 [.d (shnD []),.clos (.func g) fs cs] H fun v H'=>v=.b false∧H'=H:=by
 refine Tri_of (m:=H.length) tt_ok Tryz.func327 rfl (by decide) Tryz.ntmps327 (by rfl) rfl ?_
 repeat' ((conv=>whnf);(first
  |refine Tri.use (indexFunc_shn0 g fs cs H) ?_
  |refine finR ?_))
 rfl
theorem render_own (t:Tree) (n:Int) (hn:isN t n=true):Fn Tryz.prog 439 [aggD (pv t),.i n] (.b (ownB t n)):=by
 refine Fn_of tt_ok Tryz.func439 rfl (by decide) Tryz.ntmps439 rfl ?_
 have h2:=attr_Has t n 2
 have h6:=attr_Has t n 6
 have hc:=contains_int [] n
 unfold ownB tagB
 generalize (getP t n 2).2=b2 at *
 generalize (getP t n 6).2=b6 at *
 cases b2
 ·by_cases hk:(nd t n).kind=1
  ·by_cases hg:(nd t n).tag=2
   ·repeat' ((conv=>whnf);(first
    |refine Br_true (beqT (by omega)) ?_
    |refine Fn.use (h2) rfl rfl ?_
    |refine Fn.use (hc) rfl rfl ?_
    |refine Idx_nd hn rfl ?_
    |refine fin0 rfl ?_))
    all_goals (first|(simp [hk,hg];done)|(exfalso;omega))
   ·cases b6
    all_goals repeat' ((conv=>whnf);(first
     |refine Br_true (beqT (by omega)) ?_
     |refine Br_false (beqF (by omega)) ?_
     |refine Fn.use (h2) rfl rfl ?_
     |refine Fn.use (hc) rfl rfl ?_
     |refine Idx_nd hn rfl ?_
     |refine Fn.use (h6) rfl rfl ?_
     |refine Tri.use (containsFunc_shn0 _ _ _ _) ?_
     |refine fin0 rfl ?_))
    all_goals (first|(simp [hk,hg];done)|(exfalso;omega))
  ·cases b6
   all_goals repeat' ((conv=>whnf);(first
    |refine Br_false (beqF (by omega)) ?_
    |refine Fn.use (h2) rfl rfl ?_
    |refine Fn.use (hc) rfl rfl ?_
    |refine Idx_nd hn rfl ?_
    |refine Fn.use (h6) rfl rfl ?_
    |refine Tri.use (containsFunc_shn0 _ _ _ _) ?_
    |refine fin0 rfl ?_))
   all_goals (first|(simp [hk];done)|(exfalso;omega))
 ·repeat' ((conv=>whnf);(first
  |refine Fn.use (h2) rfl rfl ?_
  |refine fin0 rfl ?_))
  rfl
theorem render_Is1 (t:Tree) (k:Int) (hk:isN t k=true):Tri Tryz.prog 438 ([]++[.i k]++[.ptr 0 0]) [some (.row ((pv t).map .d))] fun v H'=>v=.b (!ownB t k)∧H'=[some (.row ((pv t).map .d))]:=by
 refine Tri_of (m:=1) tt_ok Tryz.func438 rfl (by decide) Tryz.ntmps438 (by rfl) rfl ?_
 repeat' ((conv=>whnf);(first
  |refine Fn.use (render_own t k hk) rfl rfl ?_
  |refine finT rfl rfl (by repeat (first|exact trivial|refine⟨⟨rfl,rfl⟩,?_⟩)) ?_))
 rfl
theorem render_Is (t:Tree) (n:Int) (L:List Int) (hL:FUp t n L) (hN: ∀k∈L,isN t k=true):Fn Tryz.prog 416 [aggD (pv t),.i n] (.b (rendB t n L)):=by
 refine Fn_of tt_ok Tryz.func416 rfl (by decide) Tryz.ntmps416 rfl ?_
 have h1:=render_may t n
 have h2:=flat_Has t n L hL
 have h3:=flat_Up t n L hL
 have h4:=containsFunc_int L 438 [] [.ptr 0 0] [some (.row ((pv t).map .d))] (fun k=> !ownB t k) (fun k hk=>render_Is1 t k (hN k hk))
 unfold rendB
 cases ha:allOk t n
 ·rw[ha] at h1
  repeat' ((conv=>whnf);(first
   |refine Fn.use (h1) rfl rfl ?_
   |refine fin0 rfl ?_))
  rfl
 rw[ha] at h1
 cases h0:L.any (· ==0)
 ·rw[h0] at h2
  repeat' ((conv=>whnf);(first
   |refine Fn.use (h1) rfl rfl ?_
   |refine Fn.use (h2) rfl rfl ?_
   |refine fin0 rfl ?_))
  rfl
 rw[h0] at h2
 have e:L.all (ownB t)= !(L.any fun k=> !ownB t k):=by simp[List.all_eq_not_any_not]
 rw[e]
 generalize (L.any fun k=> !ownB t k)=b at *
 repeat' ((conv=>whnf);(first
  |refine Fn.use (h1) rfl rfl ?_
  |refine Fn.use (h2) rfl rfl ?_
  |refine Fn.use (h3) rfl rfl ?_
  |refine Tri.use h4 ?_
  |refine fin0 rfl ?_))
 rfl
theorem inert_Blocked (t:Tree) (n:Int):Fn Tryz.prog 441 [aggD (pv t),.i n] (.b false):=by
 refine Fn_of tt_ok Tryz.func441 rfl (by decide) Tryz.ntmps441 rfl ?_
 have h1:=inert_may t n
 cases ha:allOk t n
 ·rw[ha] at h1
  repeat' ((conv=>whnf);(first
   |refine Fn.use (h1) rfl rfl ?_
   |refine fin0 rfl ?_))
  rfl
 rw[ha] at h1
 have hm:mayB t=true:=by unfold allOk at ha;simp at ha;exact ha.1
 have h2:=top_Highest t hm
 repeat' ((conv=>whnf);(first
  |refine Br_beq (fun h=>?_) (fun h=>?_)
  |refine Fn.use (h1) rfl rfl ?_
  |refine Fn.use (h2) rfl rfl ?_
  |refine fin0 rfl ?_))
 all_goals rfl
theorem inert_marked (t:Tree) (n:Int) (hm:mayB t=true) (L:List Int) (hL:FUp t n L) (hl:L.length≤1000) (hN: ∀k∈L,isN t k=true):Fn Tryz.prog 442 [aggD (pv t),.i n] (.b (L.any fun k=>(getP t k 3).2)):=by
 refine Fn_of tt_ok Tryz.func442 rfl (by decide) Tryz.ntmps442 rfl ?_
 have h1:=top_Highest t hm
 have h2:=flat_Up t n L hL
 have hkl:(List.map intCs L).length=L.length:=by simp
 refine W_scope 0 (fun _ _=>False) rfl ?_ (fun _ _ h=>h.elim)
 refine W_run tt_ok ?_
 repeat' ((conv=>whnf);(first
  |refine Len_in (fun hlen=>?_)
  |refine Fn.use (h1) rfl rfl ?_
  |refine Fn.use (h2) rfl rfl ?_))
 refine W_loop (fun μ s=> ∃(j:Nat) (b:Bool),j≤L.length∧μ=L.length-j∧(L.take j).any (fun k=>(getP t k 3).2)=false∧b=false∧
   s=⟨[(2,.ptr 0 0),(5,.i (-1)),(6,.b b),(14,.d (ints L)),(15,.i (List.map intCs L).length),(16,.i j)],32,[some (.row ((pv t).map .d))],0,[]⟩) L.length
  ⟨_,?_,0,false,by omega,by omega,by simp,rfl,rfl⟩ ?_
 ·exact Wk_env (by repeat (first|exact trivial|refine⟨rfl,?_⟩))
 rintro μ s1 ⟨j,b,hj,rfl,hno,rfl,rfl⟩
 refine W_run tt_ok ?_
 by_cases hlt:j<L.length
 ·have hidx:(L.map intCs)[(j:Int).toNat]? =some (intCs L[j]):=by simp[hlt]
  have htk:L.take (j+1)=L.take j++[L[j]]:=List.take_succ_eq_append_getElem hlt
  have hA:=attr_Has t L[j] 3
  have hp:=nd_pos (hN _ (List.getElem_mem hlt))
  have hany:(getP t L[j] 3).2=true→L.any (fun k=>(getP t k 3).2)=true:=fun h=>List.any_eq_true.2 ⟨_,List.getElem_mem hlt,h⟩
  generalize hq:(getP t L[j] 3).2=q at *
  cases q
  ·have hno':(L.take (j+1)).any (fun k=>(getP t k 3).2)=false:=by rw[htk,List.any_append,hno];simp[hq]
   repeat' ((conv=>whnf);(first
    |refine Br_false (beqF (by omega)) ?_
    |refine Br_true (decide_eq_true (by omega)) ?_
    |refine Idx_in _ hidx (by omega) rfl ?_
    |refine Fn.use (hA) rfl rfl ?_
    |refine Back_in _ _ ⟨j+1,false,by omega,rfl,hno',rfl,rfl⟩ (by omega) (Wk_env (by repeat (first|exact trivial|refine⟨rfl,?_⟩)))
    |refine ArK_in (wrap_i64 (by omega) (by omega)) ?_))
   all_goals (exfalso;omega)
  ·rw[hany rfl]
   repeat' ((conv=>whnf);(first
    |refine Br_true (decide_eq_true (by omega)) ?_
    |refine Idx_in _ hidx (by omega) rfl ?_
    |refine Fn.use (hA) rfl rfl ?_
    |refine fin0 rfl ?_))
   all_goals rfl
 ·have:L.take j=L:=List.take_of_length_le (by omega)
  rw[this] at hno
  rw[hno]
  repeat' ((conv=>whnf);(first
   |refine Br_false (decide_eq_false (by omega)) ?_
   |refine fin0 rfl ?_))
  rfl
theorem inert_Is (t:Tree) (n:Int) (L:List Int) (hL:FUp t n L) (hl:L.length≤1000) (hN: ∀k∈L,isN t k=true):Fn Tryz.prog 417 [aggD (pv t),.i n] (.b (inertB t n L)):=by
 refine Fn_of tt_ok Tryz.func417 rfl (by decide) Tryz.ntmps417 rfl ?_
 have h1:=inert_may t n
 have h2:=inert_Blocked t n
 unfold inertB
 cases ha:allOk t n
 ·rw[ha] at h1
  repeat' ((conv=>whnf);(first
   |refine Fn.use (h1) rfl rfl ?_
   |refine fin0 rfl ?_))
  rfl
 rw[ha] at h1
 have hm:mayB t=true:=by unfold allOk at ha;simp at ha;exact ha.1
 have h3:=inert_marked t n hm L hL hl hN
 repeat' ((conv=>whnf);(first
  |refine Fn.use (h1) rfl rfl ?_
  |refine Fn.use (h2) rfl rfl ?_
  |refine Fn.use (h3) rfl rfl ?_
  |refine fin0 rfl ?_))
 rfl
end Go.Eng
namespace Go.Eng
open Go Go.Proofs
theorem indexFunc_fns (cs:List AV) (bs:List Bool) (hlen:cs.length=bs.length) (hl:cs.length≤100) (g:FuncId)
  (hc: ∀(k:Nat) (h:k<cs.length),Tri Tryz.prog g [cs[k]] [some (.row cs)] fun v H=>v=.b (bs[k]'(by omega))∧H=[some (.row cs)]):
  Tri Tryz.prog 413 [.msl 0 0 cs.length cs.length 1,.d (.fn g)] [some (.row cs)] fun v H=>v=.i (ix id bs)∧H=[some (.row cs)]:=by
 refine Tri_of (m:=1) tt_ok Tryz.func413 rfl (by decide) Tryz.ntmps413 (by rfl) rfl ?_
 repeat' ((conv=>whnf);(first
  |refine Len_in (fun hlen=>?_)))
 refine W_loop (fun μ s=> ∃(k:Nat),k≤cs.length∧μ=cs.length-k∧(∀ j (h:j<bs.length),j<k→id bs[j]=false)∧
   s=⟨[(0,.msl 0 0 cs.length cs.length 1),(1,.d (.fn g)),(7,.i cs.length),(8,.i k)],19,[some (.row cs)],1,[]⟩) cs.length
  ⟨_,?_,0,by simp,by simp,by simp,rfl⟩ ?_
 ·exact Wk_env (by repeat (first|exact trivial|refine⟨rfl,?_⟩))
 rintro μ s1 ⟨k,hk,rfl,hno,rfl⟩
 refine W_run tt_ok ?_
 by_cases hlt:k<cs.length
 ·have hcell:cs[0+(k:Int).toNat * 1]? =some cs[k]:=by
   rw[show 0+(k:Int).toNat * 1=k by omega];exact List.getElem?_eq_getElem hlt
  have h1:=hc k hlt
  have hd:=ix_drop id bs k hno (by omega)
  rw[List.drop_eq_getElem_cons (by omega)] at hd
  generalize hb:bs[k]'(by omega)=b at *
  cases b
  ·have hno': ∀j (h:j<bs.length),j<k+1→id bs[j]=false:=fun j hj hjk=>by
    rcases Nat.lt_succ_iff_lt_or_eq.1 hjk with h1|h1
    ·exact hno j hj h1
    ·subst h1;exact hb
   repeat' ((conv=>whnf);(first
    |refine Br_true (decide_eq_true (by omega)) ?_
    |refine Cell_in _ hcell ?_
    |refine Tri.use h1 ?_
    |refine Back_in _ _ ⟨k+1,by omega,rfl,hno',rfl⟩ (by omega) (Wk_env (by repeat (first|exact trivial|refine⟨rfl,?_⟩)))
    |refine ArK_in (wrap_i64 (by omega) (by omega)) ?_
    |refine force_in ?_))
  ·repeat' ((conv=>whnf);(first
   |refine Br_true (decide_eq_true (by omega)) ?_
   |refine Cell_in _ hcell ?_
   |refine Tri.use h1 ?_
   |refine finR ?_
   |refine force_in ?_))
   simp only[AV.d.injEq,D.int.injEq,true_and,hd,ix]
   simp
 ·have hd:=ix_drop id bs k hno (by omega)
  rw[List.drop_eq_nil_of_le (by omega)] at hd
  repeat' ((conv=>whnf);(first
   |refine Br_false (decide_eq_false (by omega)) ?_
   |refine finR ?_))
  simp[hd,ix]
theorem containsFunc_fns (cs:List AV) (bs:List Bool) (hlen:cs.length=bs.length) (hl:cs.length≤100) (g:FuncId)
  (hc: ∀(k:Nat) (h:k<cs.length),Tri Tryz.prog g [cs[k]] [some (.row cs)] fun v H=>v=.b (bs[k]'(by omega))∧H=[some (.row cs)]):
  Tri Tryz.prog 374 [.msl 0 0 cs.length cs.length 1,.d (.fn g)] [some (.row cs)] fun v H=>v=.b (decide (0≤ix id bs))∧H=[some (.row cs)]:=by
 refine Tri_of (m:=1) tt_ok Tryz.func374 rfl (by decide) Tryz.ntmps374 (by rfl) rfl ?_
 have h:=indexFunc_fns cs bs hlen hl g hc
 generalize ix id bs=i at *
 repeat' ((conv=>whnf);(first
  |refine Tri.use h ?_
  |refine finR ?_))
 rfl
theorem area_is1 (f:FuncId) (t:Tree) (n:Int) (b:Bool) (h:Fn Tryz.prog f [aggD (ndC t n)] (.b b)):Fn Tryz.prog 380 [.clos (.func f) [aggD (ndC t n)] []] (.b b):=by
 refine Fn_of tt_ok Tryz.func380 rfl (by decide) Tryz.ntmps380 rfl ?_
 repeat' ((conv=>whnf);(first
  |refine Fn.use (h) rfl rfl ?_
  |refine fin0 rfl ?_))
 rfl
theorem area_unseen (t:Tree) (n:Int) (L:List Int) (hL:FUp t n L) (hN: ∀k∈L,isN t k=true):Fn Tryz.prog 378 [aggD (ndC t n)] (.b (!rendB t n L)):=by
 refine Fn_of tt_ok Tryz.func378 rfl (by decide) Tryz.ntmps378 rfl ?_
 have h:=render_Is t n L hL hN
 repeat' ((conv=>whnf);(first
  |refine Fn.use (h) rfl rfl ?_
  |refine fin0 rfl ?_))
 rfl
theorem area_inert (t:Tree) (n:Int) (L:List Int) (hL:FUp t n L) (hl:L.length≤1000) (hN: ∀k∈L,isN t k=true):Fn Tryz.prog 379 [aggD (ndC t n)] (.b (inertB t n L)):=by
 refine Fn_of tt_ok Tryz.func379 rfl (by decide) Tryz.ntmps379 rfl ?_
 have h:=inert_Is t n L hL hl hN
 repeat' ((conv=>whnf);(first
  |refine Fn.use (h) rfl rfl ?_
  |refine fin0 rfl ?_))
 rfl
theorem area_is (t:Tree) (n:Int) (ha:allOk t n=true) (L:List Int) (hL:FUp t n L) (hl:L.length≤1000) (hN: ∀k∈L,isN t k=true):Fn Tryz.prog 318 [aggD (ndC t n)] (.b (areaB t n L)):=by
 refine Fn_of tt_ok Tryz.func318 rfl (by decide) Tryz.ntmps318 rfl ?_
 have hn:isN t n=true:=by unfold allOk at ha;simp at ha;exact ha.2
 have h1:=area_is1 _ t n _ (area_plain t n hn)
 have h2:=area_is1 _ t n _ (area_disabled t n hn)
 have h3:=area_is1 _ t n _ (area_delegates t n hn)
 have h4:=area_is1 _ t n _ (area_unseen t n L hL hN)
 have h5:=area_is1 _ t n _ (area_inert t n L hL hl hN)
 have hb:areaB t n L= !decide (0≤ix id [!tixB t n,disB t n,delB t n,!rendB t n L,inertB t n L]):=by
  unfold areaB
  rw[ha]
  cases tixB t n <;> cases disB t n <;> cases delB t n <;> cases rendB t n L <;> cases inertB t n L <;> rfl
 have hc:=containsFunc_fns [.clos (.func 375) [aggD (ndC t n)] [],.clos (.func 376) [aggD (ndC t n)] [],.clos (.func 377) [aggD (ndC t n)] [],
   .clos (.func 378) [aggD (ndC t n)] [],.clos (.func 379) [aggD (ndC t n)] []] [!tixB t n,disB t n,delB t n,!rendB t n L,inertB t n L] rfl (by simp) 380 (fun k h=>by
  match k,h with
  |0,_=>exact Fn.use h1 rfl rfl ⟨rfl,rfl⟩
  |1,_=>exact Fn.use h2 rfl rfl ⟨rfl,rfl⟩
  |2,_=>exact Fn.use h3 rfl rfl ⟨rfl,rfl⟩
  |3,_=>exact Fn.use h4 rfl rfl ⟨rfl,rfl⟩
  |4,_=>exact Fn.use h5 rfl rfl ⟨rfl,rfl⟩
  |k+5,h=>exact absurd h (by simp))
 rw[hb]
 generalize decide (0≤ix id [!tixB t n,disB t n,delB t n,!rendB t n L,inertB t n L])=b at *
 skip
 refine Ch_l ?_
 repeat' ((conv=>whnf);(first
  |refine Tri.call hc [1] rfl rfl ⟨⟨rfl,rfl⟩,trivial⟩ rfl rfl rfl rfl rfl rfl ?_
  |refine fin0 rfl ?_))
 rfl
theorem area_Is (t:Tree) (n:Int) (L:List Int) (hL:FUp t n L) (hl:L.length≤1000) (hN: ∀k∈L,isN t k=true):Fn Tryz.prog 239 [aggD (pv t),.i n] (.b (areaB t n L)):=by
 refine Fn_of tt_ok Tryz.func239 rfl (by decide) Tryz.ntmps239 rfl ?_
 have h1:=area_of t n
 have h2:=top_Check t
 cases ha:allOk t n
 ·have e:areaB t n L=false:=by unfold areaB;rw[ha];rfl
  rw[ha] at h1
  rw[e]
  repeat' ((conv=>whnf);(first
   |refine Fn.use (h1) rfl rfl ?_
   |refine fin0 rfl ?_))
  rfl
 rw[ha] at h1
 have hm:mayB t=true:=by unfold allOk at ha;simp at ha;exact ha.1
 rw[hm] at h2
 have h3:=area_is t n ha L hL hl hN
 generalize areaB t n L=b at *
 repeat' ((conv=>whnf);(first
  |refine Fn.use (h1) rfl rfl ?_
  |refine Fn.use (h2) rfl rfl ?_
  |refine Fn.use (h3) rfl rfl ?_
  |refine fin0 rfl ?_))
 rfl
def giveR (t:Tree) (n:Int) (L:List Int):Int:=if areaB t n L then n else -1
def givC (t:Tree) (b:Nat):List AV:=(pv t).map .d++[.mp b]
theorem giver_area (t:Tree) (n:Int) (L:List Int) (hL:FUp t n L) (hl:L.length≤1000) (hN: ∀k∈L,isN t k=true) (hd:areaB t n L=true∨(allOk t n&&delB t n)=false):
  Tri Tryz.prog 292 [.agg (givC t 0),.i n] [some (.mp [] [])] fun v H=>v=.i (giveR t n L)∧H=[some (.mp [] [])]:=by
 refine Tri_of (m:=1) tt_ok Tryz.func292 rfl (by decide) Tryz.ntmps292 (by rfl) rfl ?_
 have h1:=area_Is t n L hL hl hN
 have h2:=area_Delegates t n
 unfold giveR
 cases ha:areaB t n L
 ·rw[ha] at h1
  rw[hd.resolve_left (by rw[ha];simp)] at h2
  repeat' ((conv=>whnf);(first
   |refine Fn.use (h1) rfl rfl ?_
   |refine Fn.use (h2) rfl rfl ?_
   |refine finT rfl rfl (by repeat (first|exact trivial|refine⟨⟨rfl,rfl⟩,?_⟩)) ?_))
  rfl
 ·rw[ha] at h1
  repeat' ((conv=>whnf);(first
   |refine Fn.use (h1) rfl rfl ?_
   |refine finT rfl rfl (by repeat (first|exact trivial|refine⟨⟨rfl,rfl⟩,?_⟩)) ?_))
  rfl
theorem give_to (t:Tree) (n:Int) (L:List Int) (hL:FUp t n L) (hl:L.length≤1000) (hN: ∀k∈L,isN t k=true) (hd:areaB t n L=true∨(allOk t n&&delB t n)=false):
  Fn Tryz.prog 291 [aggD (pv t),.i n,.d (.fn 292)] (.i (giveR t n L)):=by
 refine Fn_of tt_ok Tryz.func291 rfl (by decide) Tryz.ntmps291 rfl ?_
 have h1:=top_Check t
 have h2:=giver_area t n L hL hl hN hd
 have e:(List.map Node.cs t).length=t.length:=by simp
 by_cases ha:allOk t n=true
 ·have ha':=ha
  unfold allOk at ha'
  simp only[Bool.and_eq_true] at ha'
  rw[ha'.1] at h1
  have hn:=nd_pos ha'.2
  have hl2:=(nd_get ha'.2).1
  repeat' ((conv=>whnf);(first
   |refine Br_false (decide_eq_false (by omega)) ?_
   |refine Len_in (fun hlen=>?_)
   |refine Fn.use (h1) rfl rfl ?_
   |refine Tri.call h2 [1] rfl rfl ⟨⟨rfl,rfl⟩,trivial⟩ rfl rfl rfl rfl rfl rfl ?_
   |refine fin0 rfl ?_))
  all_goals (first|rfl|(exfalso;omega))
 ·have hf:allOk t n=false:=by simpa using ha
  have e2:giveR t n L= -1:=by unfold giveR areaB;rw[hf];rfl
  rw[e2]
  unfold allOk at hf
  cases hm:mayB t
  ·rw[hm] at h1
   repeat' ((conv=>whnf);(first
    |refine Fn.use (h1) rfl rfl ?_
    |refine fin0 rfl ?_))
   all_goals rfl
  ·rw[hm] at h1 hf
   have hi: ¬(0≤n∧n<t.length):=by unfold isN at hf;simpa using hf
   repeat' ((conv=>whnf);(first
    |refine Br_true (decide_eq_true (by omega)) ?_
    |refine Br_dec (fun h=>?_) (fun h=>?_)
    |refine Len_in (fun hlen=>?_)
    |refine Fn.use (h1) rfl rfl ?_
    |refine fin0 rfl ?_))
   all_goals (first|rfl|(exfalso;omega))
theorem give_Area (t:Tree) (n:Int) (L:List Int) (hL:FUp t n L) (hl:L.length≤1000) (hN: ∀k∈L,isN t k=true) (hd:areaB t n L=true∨(allOk t n&&delB t n)=false):
  Fn Tryz.prog 228 [aggD (pv t),.i n] (.i (giveR t n L)):=by
 refine Fn_of tt_ok Tryz.func228 rfl (by decide) Tryz.ntmps228 rfl ?_
 have h:=give_to t n L hL hl hN hd
 repeat' ((conv=>whnf);(first
  |refine Fn.use (h) rfl rfl ?_
  |refine fin0 rfl ?_))
 rfl
end Go.Eng
namespace Go.Eng
open Go Go.Proofs
theorem chain_is (t:Tree) (a b:Int):Fn Tryz.prog 185 [.d (treeD t),.i a,.i b] (.b (allOk t a&&allOk t b)):=by
 refine Fn_of tt_ok Tryz.func185 rfl (by decide) Tryz.ntmps185 rfl ?_
 have h1:=order_Top t a
 have h2:=order_Top t b
 cases ha:allOk t a
 ·rw[topR_none ha] at h1
  repeat' ((conv=>whnf);(first
   |refine Fn.use (h1) rfl rfl ?_
   |refine fin0 rfl ?_))
  rfl
 have p1:=nd_pos (topR_isN ha)
 cases hb:allOk t b
 ·rw[topR_none hb] at h2
  repeat' ((conv=>whnf);(first
   |refine Br_true (bneT (by omega)) ?_
   |refine Fn.use (h1) rfl rfl ?_
   |refine Fn.use (h2) rfl rfl ?_
   |refine fin0 rfl ?_))
  all_goals (first|rfl|(exfalso;omega))
 have p2:=nd_pos (topR_isN hb)
 generalize topR t a=x at *
 generalize topR t b=y at *
 have hx:x≠ -1:=by omega
 have hy:y≠ -1:=by omega
 repeat' ((conv=>whnf);(first
  |refine Br_true (bneT (by omega)) ?_
  |refine Fn.use (h1) rfl rfl ?_
  |refine Fn.use (h2) rfl rfl ?_
  |refine fin0 rfl ?_))
 all_goals (first|rfl|(exfalso;omega)|(simp;omega)|simp_all)
def chainR (t:Tree) (n:Int):List Int:=if allOk t n=false then [] else if n=0 then [0] else [n,0]
theorem chain_Chain (t:Tree) (n:Int):Fn Tryz.prog 114 [.d (treeD t),.i n] (.d (ints (chainR t n))):=by
 refine Fn_of tt_ok Tryz.func114 rfl (by decide) Tryz.ntmps114 rfl ?_
 have h1:=chain_is t n n
 unfold chainR
 cases ha:allOk t n
 ·rw[ha] at h1
  repeat' ((conv=>whnf);(first
   |refine Fn.use (h1) rfl rfl ?_
   |refine finD (F:=[]) .nsl))
 rw[ha] at h1
 rw[if_neg (by simp)]
 by_cases h0:n=0
 ·subst h0
  rw[if_pos rfl]
  repeat' ((conv=>whnf);(first
   |refine Fn.use (h1) rfl rfl ?_
   |refine Need_in ⟨Nat.le_of_ble_eq_true rfl,Nat.le_of_ble_eq_true rfl,by omega,by omega⟩ ?_))
  conv=>whnf
  refine finD (F:=[0]) (.frz 0 1 1 1 1 [.i 0,.i 0] [intCs 0] (by simp) rfl rfl ?_ ?_ ?_)
  ·intro r hr
   simp at hr
   subst hr
   rfl
  ·simp
  ·intro i x y hi hx hy
   match i with
   |0=>simp[intCs] at hx hy;subst hx hy;exact .same _ rfl
   |i+1=>simp[intCs] at hy
 ·rw[if_neg h0]
  repeat' ((conv=>whnf);(first
   |refine Br_false (beqF (by omega)) ?_
   |refine Fn.use (h1) rfl rfl ?_
   |refine Need_in (Nat.le_of_ble_eq_true rfl) ?_
   |refine finD (F:=[0]) (FV_tab ([n,0].map intCs) rfl rfl rfl cs1)))
abbrev evsD (l:List Ev):D:=.sl (l.map Ev.cs)
theorem cs6e {l:List Ev}: ∀r∈l.map Ev.cs,r.length=6:=by
 intro r hr;obtain ⟨x,_,rfl⟩:=List.mem_map.1 hr;rfl
def relR (n:Int):Int:=if n=0 then -1 else n
def pairR (k0 k1 tg rl:Int):List Ev:=[⟨k0,tg,relR rl,false,false,true⟩,⟨k1,tg,relR rl,true,false,true⟩]
abbrev evC (k tg rl:Int) (b:Bool):List AV:=[.i k,.i tg,.i rl,.b b,.b false,.b true]
abbrev evZ:List AV:=[.i 0,.i 0,.i 0,.b false,.b false,.b false]
theorem chain_pair (k0 k1 tg rl:Int):Fn Tryz.prog 293 [.agg [.i k0,.i k1],.i tg,.i rl] (.d (evsD (pairR k0 k1 tg rl))):=by
 refine Fn_of tt_ok Tryz.func293 rfl (by decide) Tryz.ntmps293 rfl ?_
 unfold pairR
 by_cases hr:rl=0
 all_goals
  repeat' ((conv=>whnf);(first
   |refine Br_true (beqT (by omega)) ?_
   |refine Br_false (beqF (by omega)) ?_))
  refine W_loop (fun μ s=>(μ=2∧s=⟨[(1,.i tg),(2,.i (relR rl)),(7,.ptr 1 0),(12,.agg [.i k0,.i k1]),(13,.i 0)],27,[some (.row [.i k0,.i k1]),some (.row (evZ++evZ))],0,[]⟩)∨
   (μ=1∧s=⟨[(1,.i tg),(2,.i (relR rl)),(7,.ptr 1 0),(12,.agg [.i k0,.i k1]),(13,.i 1)],27,[some (.row [.i k0,.i k1]),some (.row (evC k0 tg (relR rl) false++evZ))],0,[]⟩)∨
   (μ=0∧s=⟨[(1,.i tg),(2,.i (relR rl)),(7,.ptr 1 0),(12,.agg [.i k0,.i k1]),(13,.i 2)],27,[some (.row [.i k0,.i k1]),some (.row (evC k0 tg (relR rl) false++evC k1 tg (relR rl) true))],0,[]⟩)) 2 ⟨_,?_,.inl ⟨rfl,rfl⟩⟩ ?_
  ·have e:relR rl=(if rl=0 then -1 else rl):=rfl
   rw[e]
   first
    |rw[if_pos hr]
    |rw[if_neg hr]
   exact Wk_env (by repeat (first|exact trivial|refine⟨rfl,?_⟩))
  generalize relR rl=r
  rintro μ s1 (⟨rfl,rfl⟩|⟨rfl,rfl⟩|⟨rfl,rfl⟩)
  ·refine W_run tt_ok ?_
   repeat' ((conv=>whnf);(first
    |refine Back_in _ 1 (.inr (.inl ⟨rfl,rfl⟩)) (by omega) (Wk_env (by repeat (first|exact trivial|refine⟨rfl,?_⟩)))
    |refine ArK_in (wrap_i64 (by omega) (by omega)) ?_))
  ·refine W_run tt_ok ?_
   repeat' ((conv=>whnf);(first
    |refine Back_in _ 0 (.inr (.inr ⟨rfl,rfl⟩)) (by omega) (Wk_env (by repeat (first|exact trivial|refine⟨rfl,?_⟩)))
    |refine ArK_in (wrap_i64 (by omega) (by omega)) ?_))
  ·refine W_run tt_ok ?_
   repeat' ((conv=>whnf);(first
    |refine Need_in (Nat.le_of_ble_eq_true rfl) ?_))
   conv=>whnf
   exact finD (F:=[1]) (FV_tab (sz:=6) [[.int .i64 k0,.int .i64 tg,.int .i64 r,.bool false,.bool false,.bool true],[.int .i64 k1,.int .i64 tg,.int .i64 r,.bool true,.bool false,.bool true]] rfl rfl rfl (by intro x hx;simp at hx;rcases hx with rfl|rfl <;> rfl))
end Go.Eng
