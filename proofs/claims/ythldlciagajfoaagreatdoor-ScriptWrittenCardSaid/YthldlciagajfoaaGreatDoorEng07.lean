/- What the seat's proofs lean on, part 7: the executor over abstract values, its soundness, and what the program's functions answer (Scr5, Scr6, ScL1, Trf2, Trf3, Tel6, Bld1, Bld2, Bld3, Tel7, Tree4, Sp40, Att1, Att3x, Ord1, Ord2, Sp41, Ord3, Ord4, Sp42, Sp43, Ord5, Ord6, Shd1, Shd2, Slt1). -/
import Derived.Test.YthldlciagajfoaaGreatDoorEng06
import Derived.Test.YthldlciagajfoaaGreatDoorEng05
import Derived.Shelf.Strings.Builder1
import Derived.Lib.UnsafeStr
import Derived.Test.YthldlciagajfoaaGreatDoorEng04
import Derived.Test.YthldlciagajfoaaGreatDoorEng03
set_option linter.all false
set_option linter.unusedVariables false
set_option linter.unusedSimpArgs false
set_option maxRecDepth 100000
namespace Go.Eng
open Go Go.Proofs
theorem ref24_Lines (s:List UInt8) (hs:s.length≤100000):Fn Tryz.prog 32 [.d (str s)] (.d (texts (plines s))):=by
 rw[← lines_same]
 unfold dlines
 have hS:=ref20_Split s 10 hs
 have hne:=splitL_ne 10 s
 generalize splitL 10 s=W at *
 obtain ⟨u,x,rfl⟩: ∃u x,W=u++[x]:=⟨_,_,(List.dropLast_concat_getLast hne).symm⟩
 have hl:((u++[x]).map fun l=>[str l]).length=u.length+1:=by simp
 have hi:((u++[x]).map fun l=>[str l])[((((u++[x]).map fun l=>[str l]).length:Int)-1).toNat]? =some [str x]:=by
  rw[hl,show (((u.length+1:Nat):Int)-1).toNat=u.length by omega]
  simp
 have hc:=str_beq x []
 have h1: ∀r∈(u++[x]).map (fun l=>[str l]),r.length=1:=fun r hr=>by obtain ⟨y,_,rfl⟩:=List.mem_map.1 hr;rfl
 by_cases hx:x=[]
 ·rw[decide_eq_true hx] at hc
  rw[if_pos (by simp[hx]),List.dropLast_concat]
  have hres:AV.d (D.sl ((((u++[x]).map fun l=>[str l]).take ((((u++[x]).map fun l=>[str l]).length:Int)-1).toNat).drop (Int.toNat 0)))=.d (texts u):=by
   rw[hl,show (((u.length+1:Nat):Int)-1).toNat=u.length by omega]
   unfold texts
   simp
  refine Fn_of tt_ok Tryz.func32 rfl (by decide) Tryz.ntmps32 rfl ?_
  repeat' ((conv=>whnf);(first
   |refine Br_true hc ?_
   |refine Len_in (fun hlen=>?_)
   |refine Fn.use (hS) rfl rfl ?_
   |refine Idx_in _ hi (by omega) rfl ?_
   |refine Need_in ⟨by omega,by omega,by omega,h1⟩ ?_
   |refine fin0 rfl hres
   |refine ArK_in (wrap_i64 (by omega) (by omega)) ?_))
 ·rw[decide_eq_false hx] at hc
  rw[if_neg (by simp[hx])]
  refine Fn_of tt_ok Tryz.func32 rfl (by decide) Tryz.ntmps32 rfl ?_
  repeat' ((conv=>whnf);(first
   |refine Br_false hc ?_
   |refine Len_in (fun hlen=>?_)
   |refine Fn.use (hS) rfl rfl ?_
   |refine Idx_in _ hi (by omega) rfl ?_
   |refine fin0 rfl ?_
   |refine ArK_in (wrap_i64 (by omega) (by omega)) ?_))
  rfl
def docTk (o:OpR) (k:Nat):List UInt8:=
 if 0≤kix o.d o.fl∧kix o.d o.fl<k then joinL 32 (kW (kix o.d o.fl).toNat::numsV o (kN (kix o.d o.fl).toNat))
 else if o.d=6∧o.p≠[] then wProg++32::textL o.p else wProg
theorem kix_6 (f:Bool):kix 6 f<0:=by
 rcases Int.lt_or_le (kix 6 f) 0 with h|h
 ·exact h
 ·obtain ⟨k,_,e2,e3,_⟩:=kix_hit h
  exact absurd e3 (k_all ⟨k,e2⟩).2.2.2.2.1
theorem docTk_end (o:OpR):docTk o 26=docT o:=by
 unfold docTk docT
 by_cases h6:o.d=6
 ·have:=kix_6 o.fl
  rw[h6,if_neg (by omega),if_pos rfl]
  by_cases hp:o.p=[]
  ·rw[if_pos hp,if_neg (by rintro ⟨_,h⟩;exact h hp)]
  ·rw[if_neg hp,if_pos ⟨rfl,hp⟩]
 ·rw[if_neg h6]
  by_cases h0:kix o.d o.fl<0
  ·rw[if_pos h0,if_neg (by omega),if_neg (by rintro ⟨h,_⟩;exact h6 h)]
  ·have:=kix_lt h0
   rw[if_neg h0,if_pos (by omega)]
theorem docTk_at {o:OpR} {k:Nat} (hk:k<26) (h1:kD k=o.d) (h2:kF k=o.fl):docTk o (k+1)=joinL 32 (kW k::numsV o (kN k)):=by
 have e:kix o.d o.fl=k:=by rw[← h1,←h2];exact kix_at hk
 unfold docTk
 rw[e,if_pos (by omega),Int.toNat_natCast]
theorem docTk_no {o:OpR} {k:Nat} (hk:k<26) (h: ¬(kD k=o.d∧kF k=o.fl)):docTk o (k+1)=docTk o k:=by
 unfold docTk
 by_cases h0:0≤kix o.d o.fl∧kix o.d o.fl<k
 ·rw[if_pos h0,if_pos (by omega)]
 ·rw[if_neg h0,if_neg]
  rintro ⟨g1,g2⟩
  obtain ⟨j,e1,e2,e3,e4⟩:=kix_hit g1
  have:j=k:=by omega
  subst this
  exact h ⟨e3,e4⟩
theorem docTk_0 (o:OpR):docTk o 0=if o.d=6∧o.p≠[] then wProg++32::textL o.p else wProg:=by
 unfold docTk
 rw[if_neg (by omega)]
theorem docT_len (o:OpR) (ha:i64B o.a) (hb:i64B o.b) (hc:i64B o.c):(docT o).length≤2000:=by
 have ht:=textL_len2 o.p
 have h7:wProg.length=7:=rfl
 unfold docT
 split
 ·split
  ·decide
  ·simp only[List.length_append,List.length_cons]
   omega
 ·split
  ·decide
  ·rename_i h
   exact Nat.le_trans (nums_len o ha hb hc _ (kix_lt h)) (by omega)
@[irreducible] def numT (w:List UInt8) (o:OpR) (m:Nat):List UInt8:=joinL 32 (w::([o.a,o.b,o.c].take m).map it)
theorem numT_0 (w:List UInt8) (o:OpR):numT w o 0=w:=by unfold numT;rfl
theorem numT_next (w:List UInt8) (o:OpR) {m:Nat} (hm:m<3):numT w o (m+1)=numT w o m++32::it ([o.a,o.b,o.c].getD m 0):=by
 unfold numT
 rcases (by omega:m=0∨m=1∨m=2) with rfl|rfl|rfl
 ·exact joinL_snocP 32 [w] (it o.a) (by simp)
 ·exact joinL_snocP 32 [w,it o.a] (it o.b) (by simp)
 ·exact joinL_snocP 32 [w,it o.a,it o.b] (it o.c) (by simp)
theorem numT_len (w:List UInt8) (o:OpR) (ha:i64B o.a) (hb:i64B o.b) (hc:i64B o.c) (m:Nat) (hw:w.length≤20):(numT w o m).length≤10000:=by
 unfold numT
 refine Nat.le_trans (joinL_len' 32 _ 100 fun x hx=>?_) (Nat.le_trans (Nat.mul_le_mul_right _ (by simp only[List.length_cons,List.length_map,List.length_take,List.length_nil];omega:_≤11)) (by omega))
 rcases List.mem_cons.1 hx with rfl|hx
 ·omega
 ·obtain ⟨y,hy,rfl⟩:=List.mem_map.1 hx
  have hy2:=List.mem_of_mem_take hy
  have h64:i64B y:=by
   simp at hy2
   rcases hy2 with rfl|rfl|rfl <;> assumption
  have:=Lib.itoa_length_le y h64.1 h64.2
  unfold it;omega
set_option maxHeartbeats 2000000 in
theorem ref24_Line (o:OpR) (ha:i64B o.a) (hb:i64B o.b) (hc:i64B o.c):Fn Tryz.prog 14 [aggD o.cs] (.d (str (lnV o))):=by
 have hP:=ref24_Parse (docT o) (Nat.le_trans (docT_len o ha hb hc) (by omega))
 have hS:=ref24_Same (docS (docT o)).1 o
 have hT:=ref20_Text o.p
 have htl:=textL_len2 o.p
 have h0:=docTk_0 o
 have hno:=fun (k:Nat) (hk:k<26)=>docTk_no (o:=o) hk
 have hyes:=fun (k:Nat) (hk:k<26)=>docTk_at (o:=o) hk
 have hnum:=fun (w:List UInt8) (m:Nat) (hm:m<3)=>numT_next w o hm
 have hnl:=fun (w:List UInt8) (m:Nat) (hw:w.length≤20)=>numT_len w o ha hb hc m hw
 have hn0:=fun (w:List UInt8)=>numT_0 w o
 have h3: ∀m:Nat,m<3→i64B ([o.a,o.b,o.c].getD m 0):=fun m hm=>by
  rcases (by omega:m=0∨m=1∨m=2) with rfl|rfl|rfl
  ·exact ha
  ·exact hb
  ·exact hc
 have hNu:=fun (m:Nat) (hm:m<3)=>ref23_Number ([o.a,o.b,o.c].getD m 0) (h3 m hm)
 have hil: ∀m:Nat,m<3→(it ([o.a,o.b,o.c].getD m 0)).length≤100:=fun m hm=>by
  have:=Lib.itoa_length_le _ (h3 m hm).1 (h3 m hm).2
  unfold it;omega
 have hix: ∀m:Nat,m<3→[[D.int .i64 o.a],[D.int .i64 o.b],[D.int .i64 o.c]][(m:Int).toNat]? =some [D.int .i64 ([o.a,o.b,o.c].getD m 0)]:=fun m hm=>by
  rcases (by omega:m=0∨m=1∨m=2) with rfl|rfl|rfl <;> rfl
 have hnv: ∀w n,joinL 32 (w::numsV o n)=numT w o n:=fun w n=>by unfold numT;rfl
 rw[ln_doc o]
 rw[← docTk_end o] at hP hS⊢
 have hK:=ref24_kinds
 have hkl:kRows.length=26:=by rw[kRows_eq];simp
 have hat:=fun (k:Nat) (h:k<26)=>kRows_at h (n:=(k:Int)) rfl
 obtain ⟨K,hKe⟩: ∃K,K=kRows:=⟨_,rfl⟩
 rw[← hKe] at hkl hat hK
 clear hKe h3
 have hkp:(List.map Step.cs o.p).length=o.p.length:=by simp
 have hd0:0<o.p.length↔o.p≠[]:=List.length_pos_iff
 obtain ⟨DT,hDT⟩: ∃DT,DT=docTk o:=⟨_,rfl⟩
 obtain ⟨NT,hNT⟩: ∃NT,NT=fun w m=>numT w o m:=⟨_,rfl⟩
 have hNTe: ∀w m,numT w o m=NT w m:=fun w m=>by rw[hNT]
 simp only[hNTe,hnv] at hno hyes hnum hnl hn0
 rw[← hDT] at hP hS h0 hno hyes⊢
 clear hNTe hnv hNT hDT
 generalize docS (DT 26)=q at *
 obtain ⟨x,n⟩:=q
 generalize textL o.p=tx at *
 obtain ⟨od,oa,ob,oc,ofl,op⟩:=o
 simp only at *
 refine Fn_of tt_ok Tryz.func14 rfl (by decide) Tryz.ntmps14 rfl ?_
 have hc6:od=6→0<op.length→D.str ((⟨([112,114,111,103,114,97,109,32]:List UInt8).toArray⟩:ByteArray)++⟨tx.toArray⟩)=str (DT 0):=fun h h2=>by
  rw[h0,if_pos ⟨h,hd0.1 h2⟩,str_app]
  simp[str,wProg]
 have hc7: ¬(od=6∧0<op.length)→D.str (⟨([112,114,111,103,114,97,109]:List UInt8).toArray⟩:ByteArray)=str (DT 0):=fun h=>by
  rw[h0,if_neg (fun h2=>h ⟨h2.1,hd0.2 h2.2⟩)]
  rfl
 clear h0 hd0
 rcases (by omega:(od=6∧0<op.length)∨(od=6∧op.length=0)∨od≠6) with ⟨h6,h7⟩|⟨h6,h7⟩|h6
 all_goals
  first
   |(have hS0:=hc6 h6 h7;have e6:(od==6)=true:=by simp[h6]
     have e7:decide (((List.map Step.cs op).length:Int)>0)=true:=decide_eq_true (by omega))
   |(have hS0:=hc7 (by omega);have e6:(od==6)=true:=by simp[h6]
     have e7:decide (((List.map Step.cs op).length:Int)>0)=false:=decide_eq_false (by omega))
   |(have hS0:=hc7 (by omega);have e6:(od==6)=false:=by simp[h6]
     have e7:True:=trivial)
  clear hc6 hc7
  repeat' ((conv=>whnf);(first
   |refine Br_true e6 ?_
   |refine Br_false e6 ?_
   |refine Br_true e7 ?_
   |refine Br_false e7 ?_
   |refine Len_in (fun hlen=>?_)
   |refine Fn.use (hT) rfl rfl ?_
   |refine Fn.use (hK) rfl rfl ?_
   |(refine Need_in (by unfold LB;simp[ByteArray.size];omega) ?_)))
  clear hT hK htl
  refine W_loop (fun μ st=> ∃(k:Nat),k≤26∧μ=26-k∧
    st=⟨[(1,.ptr 0 0),(3,.d (str (DT k))),(4,.d (.sl K)),(5,.i k)],91,[some (.row [.i od,.i oa,.i ob,.i oc,.b ofl,.d (stepsD op)])],0,[]⟩) 26
   ⟨_,?_,0,by omega,by omega,rfl⟩ ?_
  ·rw[← hS0]
   exact Wk_env (by repeat (first|exact trivial|refine⟨rfl,?_⟩))
  clear hS0 e6 h6 e7
  rintro μ s1 ⟨k,hk,rfl,rfl⟩
  refine W_run tt_ok ?_
  refine Len_in (fun hlen=>?_)
  by_cases hk26:k=26
  ·subst hk26
   refine Br_false (decide_eq_false (by omega)) ?_
   by_cases hn:n=0
   ·have hne:(n != 0)=false:=by rw[hn];rfl
    by_cases hx:x=⟨od,oa,ob,oc,ofl,op⟩
    ·rw[if_pos ⟨hn,hx⟩]
     rw[decide_eq_true hx] at hS
     clear hx
     obtain ⟨d2,a2,b2,c2,f2,p2⟩:=x
     repeat' ((conv=>whnf);(first
      |refine Br_false (by assumption) ?_
      |refine Fn.use (hP) rfl rfl ?_
      |refine Fn.use (hS) rfl rfl ?_
      |refine fin0 rfl ?_))
     all_goals rfl
    ·rw[if_neg (by rintro ⟨_,h⟩;exact hx h)]
     rw[decide_eq_false hx] at hS
     clear hx
     obtain ⟨d2,a2,b2,c2,f2,p2⟩:=x
     repeat' ((conv=>whnf);(first
      |refine Br_false (by assumption) ?_
      |refine Fn.use (hP) rfl rfl ?_
      |refine Fn.use (hS) rfl rfl ?_
      |refine fin0 rfl ?_))
     all_goals rfl
   ·have hne:(n != 0)=true:=by simp[hn]
    rw[if_neg (by rintro ⟨h,_⟩;exact hn h)]
    clear hS
    obtain ⟨d2,a2,b2,c2,f2,p2⟩:=x
    repeat' ((conv=>whnf);(first
     |refine Br_true (by assumption) ?_
     |refine Fn.use (hP) rfl rfl ?_
     |refine fin0 rfl ?_))
    all_goals rfl
  have hk2:k<26:=by omega
  have hatk:=hat k hk2
  have hnok:=hno k hk2
  have hyesk:=hyes k hk2
  have hk3:=(k_all ⟨k,hk2⟩).2.2.2.2.2
  simp only at hk3
  have hwl:(kW k).length≤20:=by
   have: ∀j:_root_.Fin 26,(kW j.val).length≤20:=by decide
   exact this ⟨k,hk2⟩
  unfold kRow at hatk
  clear hno hyes hat hP hS
  generalize kW k=kw at *
  generalize kD k=kd at *
  generalize kF k=kf at *
  generalize kN k=nn at *
  refine Br_true (decide_eq_true (by omega)) ?_
  by_cases hq1:kd=od
  rotate_left
  ·have e1:(kd==od)=false:=by simp[hq1]
   have e2:=hnok (fun h=>hq1 h.1)
   repeat' ((conv=>whnf);(first
    |refine Br_false e1 ?_
    |refine W_draw 0 tt_ok mixed (by kernel_rfl) ?_
    |refine Idx_in _ hatk (by omega) rfl ?_
    |(refine Back_in _ _ ⟨k+1,by omega,rfl,rfl⟩ (by omega) (by rw[e2];exact(Wk_env (by repeat (first|exact trivial|refine⟨rfl,?_⟩)))))
    |refine ArK_in (wrap_i64 (by omega) (by omega)) ?_))
  have e1:(kd==od)=true:=by simp[hq1]
  by_cases hq2:kf=ofl
  rotate_left
  ·have e3:(kf==ofl)=false:=by simp[hq2]
   have e2:=hnok (fun h=>hq2 h.2)
   repeat' ((conv=>whnf);(first
    |refine Br_true e1 ?_
    |refine Br_false e3 ?_
    |refine W_draw 0 tt_ok mixed (by kernel_rfl) ?_
    |refine Idx_in _ hatk (by omega) rfl ?_
    |(refine Back_in _ _ ⟨k+1,by omega,rfl,rfl⟩ (by omega) (by rw[e2];exact(Wk_env (by repeat (first|exact trivial|refine⟨rfl,?_⟩)))))
    |refine ArK_in (wrap_i64 (by omega) (by omega)) ?_))
  have e3:(kf==ofl)=true:=by simp[hq2]
  have e2:=hyesk hq1 hq2
  clear hnok hyesk
  repeat' ((conv=>whnf);(first
   |refine Br_true e1 ?_
   |refine Br_true e3 ?_
   |refine W_draw 0 tt_ok mixed (by kernel_rfl) ?_
   |refine Idx_in _ hatk (by omega) rfl ?_))
  refine Ch_r ?_
  repeat' ((conv=>whnf);(first
   |refine Idx_in _ hatk (by omega) rfl ?_))
  refine W_loop (fun μ st=> ∃(m:Nat),m≤nn∧μ=nn-m∧
    st=⟨[(1,.ptr 0 0),(3,.d (str (NT kw m))),(4,.d (.sl K)),(5,.i k),(6,.d (ints [oa,ob,oc])),(7,.i m)],91,[some (.row [.i od,.i oa,.i ob,.i oc,.b ofl,.d (stepsD op)])],0,[]⟩) nn
   ⟨_,?_,0,by omega,by omega,rfl⟩ ?_
  ·rw[hn0 kw]
   exact Wk_env (by repeat (first|exact trivial|refine⟨rfl,?_⟩))
  rintro μ s1 ⟨m,hm,rfl,rfl⟩
  refine W_run tt_ok ?_
  by_cases hmn:m=nn
  ·have e4:decide ((m:Int)<(nn:Int))=false:=decide_eq_false (by omega)
   subst hmn
   repeat' ((conv=>whnf);(first
    |refine Br_false e4 ?_
    |refine Idx_in _ hatk (by omega) rfl ?_
    |(refine Back_in _ _ ⟨k+1,by omega,rfl,rfl⟩ (by omega) (by rw[e2];exact(Wk_env (by repeat (first|exact trivial|refine⟨rfl,?_⟩)))))
    |refine ArK_in (wrap_i64 (by omega) (by omega)) ?_))
  ·have e4:decide ((m:Int)<(nn:Int))=true:=decide_eq_true (by omega)
   have hm3:m<3:=by omega
   have i1:=hix m hm3
   have i2:=hNu m hm3
   have i3:=hil m hm3
   have i4:=hnl kw m hwl
   have i5:=hnum kw m hm3
   have i6:D.str (((⟨(NT kw m).toArray⟩:ByteArray)++(⟨([32]:List UInt8).toArray⟩:ByteArray))++(⟨(it ([oa,ob,oc].getD m 0)).toArray⟩:ByteArray))=str (NT kw (m+1)):=by
    rw[str_app,str_app,i5]
    simp[str]
   generalize [oa,ob,oc].getD m 0=v at *
   generalize it v=iv at *
   repeat' ((conv=>whnf);(first
    |refine Br_true e4 ?_
    |refine Idx_in _ hatk (by omega) rfl ?_
    |refine Idx_in _ i1 (by omega) rfl ?_
    |refine Fn.use (i2) rfl rfl ?_
    |(refine Need_in (by unfold LB;simp[ByteArray.size];omega) ?_)
    |(refine Back_in _ _ ⟨m+1,by omega,rfl,rfl⟩ (by omega) (by rw[← i6];exact(Wk_env (by repeat (first|exact trivial|refine⟨rfl,?_⟩)))))
    |refine ArK_in (wrap_i64 (by omega) (by omega)) ?_))
end Go.Eng
namespace Go.Eng
open Go Go.Proofs
theorem cs6 {l:List OpR}: ∀r∈l.map OpR.cs,r.length=6:=by
 intro r hr;obtain ⟨x,_,rfl⟩:=List.mem_map.1 hr;rfl
theorem scr_at {ps:List UInt8→OpR×Int} {L:List (List UInt8)} {k:Nat} (hk:k<L.length) (hok: ∀x∈L.take k,(ps x).2=0) (h:(ps L[k]).2≠0):scrG ps L=([],k,(ps L[k]).2):=by
 have e:L=L.take k++L[k]::L.drop (k+1):=by rw[← List.drop_eq_getElem_cons hk,List.take_append_drop]
 have:=scr_bad (r:=L.drop (k+1)) hok h
 rw[← e,List.length_take,Nat.min_eq_left (by omega)] at this
 exact this
theorem plines_mem (s:List UInt8): ∀w∈plines s,w.length≤s.length:=by
 intro w hw
 unfold plines at hw
 split at hw
 ·simp at hw
 ·have h1:=split_mem_len 10 (trimN s) w hw
  have h2:(trimN s).length≤s.length:=by unfold trimN;split <;> simp
  omega
theorem plines_len (s:List UInt8):(plines s).length≤s.length+1:=by
 unfold plines
 split
 ·simp
 ·have h1:=split_len 10 (trimN s)
  have h2:(trimN s).length≤s.length:=by unfold trimN;split <;> simp
  omega
set_option maxHeartbeats 1000000 in
theorem ref24_Script (s:List UInt8) (hs:s.length≤100000):Fn Tryz.prog 18 [.d (str s)] (.tup [.d (opsD (scrG docS (plines s)).1),.i ((scrG docS (plines s)).2.1:Nat),.i (scrG docS (plines s)).2.2]):=by
 have hL:=ref24_Lines s hs
 have hm:=plines_mem s
 have hll:=plines_len s
 generalize plines s=L at *
 refine Fn_of tt_ok Tryz.func18 rfl (by decide) Tryz.ntmps18 rfl ?_
 have hLl:(List.map (fun l=>[str l]) L).length=L.length:=by simp
 repeat' ((conv=>whnf);(first
  |refine Fn.use (hL) rfl rfl ?_))
 refine W_loop (fun μ st=> ∃(k:Nat) (w:List OpR),k≤L.length∧μ=L.length-k∧w=(L.take k).map (fun x=>(docS x).1)∧(∀ x∈L.take k,(docS x).2=0)∧
   st=⟨[(5,AccV 0 6 (w.map OpR.cs)),(6,.d (texts L)),(7,.i k)],37,[AccB (w.map OpR.cs)],0,[]⟩) L.length
  ⟨⟨[(5,.nsl),(6,.d (texts L)),(7,.i 0)],37,[none],0,[]⟩,?_,0,[],by omega,by omega,by simp,by simp,by simp[AccV_nil,AccB_nil]⟩ ?_
 ·exact Wk.trans Wk_pad (Wk_env (by repeat (first|exact trivial|refine⟨rfl,?_⟩)))
 rintro μ s1 ⟨k,w,hk,rfl,hw,hok,rfl⟩
 have hwk:w.length=k:=by rw[hw];simp;omega
 refine W_run tt_ok ?_
 refine Len_in (fun hlen=>?_)
 by_cases hlt:k<L.length
 ·refine Br_true (decide_eq_true (by omega)) ?_
  have hi:=texts_w hlt (n:=(k:Int)) rfl
  have hwe:wAt L k=L[k]:=by unfold wAt;simp[List.getD_eq_getElem?_getD,hlt]
  rw[hwe] at hi
  have hln:=hm _ (List.getElem_mem hlt)
  have hP:=ref24_Parse L[k] (by omega)
  have hbad:=scr_at hlt hok
  have htk:L.take (k+1)=L.take k++[L[k]]:=List.take_succ_eq_append_getElem hlt
  have hwn:(L.take (k+1)).map (fun x=>(docS x).1)=w++[(docS L[k]).1]:=by rw[htk,List.map_append,←hw];rfl
  have hokn:(docS L[k]).2=0→ ∀x∈L.take (k+1),(docS x).2=0:=fun hq x hx=>by
   rw[htk] at hx
   rcases List.mem_append.1 hx with hx|hx
   ·exact hok x hx
   ·simp at hx;subst hx;exact hq
  generalize docS L[k]=q at *
  obtain ⟨o,e⟩:=q
  simp only at hP hbad hwn hokn
  by_cases he:e=0
  ·have hne:(e != 0)=false:=by rw[he];rfl
   have ha:=Acc_app (b:=0) (sz:=6) (rows:=w.map OpR.cs) (new:=[o.cs]) (by simp)
   have hmap:(w++[o]).map OpR.cs=w.map OpR.cs++[o.cs]:=by simp
   obtain ⟨od,oa,ob,oc,ofl,op⟩:=o
   repeat' ((conv=>whnf);(first
    |refine Br_false (by assumption) ?_
    |refine Idx_in _ hi (by omega) rfl ?_
    |refine Fn.use (hP) rfl rfl ?_
    |refine force_in ?_))
   refine Ch_r ?_
   conv=>whnf
   refine App_acc (w.map OpR.cs) [OpR.cs ⟨od,oa,ob,oc,ofl,op⟩] rfl rfl rfl rfl (by simp) cs6 (by intro r hr;simp at hr;subst hr;rfl) (by simp only[List.length_map,List.length_cons,List.length_nil];omega) (Nat.le_of_ble_eq_true rfl) ?_
   repeat' ((conv=>whnf);(first
    |refine Back_in _ _ ⟨k+1,w++[⟨od,oa,ob,oc,ofl,op⟩],by omega,rfl,hwn.symm,hokn he,rfl⟩ (by omega) ?_
    |refine ArK_in (wrap_i64 (by omega) (by omega)) ?_))
   rw[hmap,ha.1,ha.2]
   exact Wk_ren [2] rfl rfl ⟨⟨by rw[renB_row];rfl,lowB_row _ _⟩,trivial⟩ (by repeat (first|exact trivial|refine⟨⟨rfl,rfl⟩,?_⟩)) (by decide) (by omega)
  ·have hne:(e != 0)=true:=by simp[he]
   rw[hbad he]
   obtain ⟨od,oa,ob,oc,ofl,op⟩:=o
   repeat' ((conv=>whnf);(first
    |refine finD (F:=[]) (FV_tups ⟨.nsl,.same _ rfl,.same _ rfl,trivial⟩)
    |refine Br_true (by assumption) ?_
    |refine Idx_in _ hi (by omega) rfl ?_
    |refine Fn.use (hP) rfl rfl ?_))
 ·refine Br_false (decide_eq_false (by omega)) ?_
  rw[List.take_of_length_le (by omega)] at hw hok
  rw[scr_ok hok,←hw]
  repeat' ((conv=>whnf);(first
   |refine force_in ?_
   |refine lenM_acc (fun h0=>?_) (fun h0=>Len_in fun _=>?_)))
  all_goals
   refine finD (F:=[0]) (FV_tups ⟨FV_acc _ rfl cs6,sameI ?_,.same _ rfl,trivial⟩)
  ·have:w.length=0:=by have:=congrArg List.length h0;simpa using this
   show (0:Int)=(L.length:Nat)
   omega
  ·show ((List.map OpR.cs w).length:Int)=(L.length:Nat)
   rw[List.length_map]
   omega
def baseS (x:AV):Heap:=[some (.row [.nsl]),some (.row [.i 0]),some (.row [.i 0]),some (.row [x]),none,none,none,some .dfr]
set_option maxHeartbeats 2000000 in
theorem script_Script (s:List UInt8) (hs:s.length≤100000):Fn Tryz.prog 17 [.d (str s)] (.tup [.d (opsD (scrG docS (plines s)).1),.i ((scrG docS (plines s)).2.1:Nat),.i (scrG docS (plines s)).2.2]):=by
 have hpm:=plines_mem s
 have hpl:=plines_len s
 by_cases hn:s=[]
 ·subst hn
  rw[show scrG docS (plines [])=([],0,0) from rfl]
  have hb:((⟨#[]⟩:ByteArray).toList==(⟨#[]⟩:ByteArray).toList)=true:=by simp
  refine Fn_of tt_ok Tryz.func17 rfl (by decide) Tryz.ntmps17 rfl ?_
  repeat' ((conv=>whnf);(first
   |refine Br_true hb ?_
   |refine finD (F:=[]) (FV_tups ⟨.nsl,.same _ rfl,.same _ rfl,trivial⟩)))
 have hb:((⟨s.toArray⟩:ByteArray).toList==(⟨#[]⟩:ByteArray).toList)=false:=by rw[str_beq s []];simpa using hn
 have hT:=trim_end s hs
 have htl:(trimN s).length≤s.length:=by unfold trimN;split <;> simp
 have hnl:=splitL_ne 10 (trimN s)
 have hsq:=split_seq 10 (trimN s)
 have hsq1:=split_seq1 10 (trimN s) (by omega)
 have e:plines s=splitL 10 (trimN s):=by unfold plines;rw[if_neg hn]
 rw[← e] at hnl hsq1
 generalize plines s=ws at *
 generalize trimN s=ts at *
 refine Fn_of tt_ok Tryz.func17 rfl (by decide) Tryz.ntmps17 rfl ?_
 repeat' ((conv=>whnf);(first
  |refine Br_false hb ?_
  |refine Fn.use (hT) rfl rfl ?_))
 refine Tri.call hsq [] rfl rfl trivial rfl rfl rfl rfl (r:=.clos (.func 75) [] [.ptr 5 0,.ptr 4 0,.ptr 6 0]) (H':=[some (.row [.nsl]),some (.row [.i 0]),some (.row [.i 0]),some (.row [.nsl]),some (.row [.d (str ts)]),some (.row [.d (str [10])]),some (.row [.i 0])]) rfl rfl ?_
 conv=>whnf
 refine W_rangeA [4,5,6] (fs0:=[]) (cs0:=[.ptr 1 0,.ptr 0 0,.ptr 2 0]) (H0:=seqH 10 ts) (ws.map fun w=>.d (str w))
  (fun k H=>(∀ x∈ws.take k,(docS x).2=0)∧((k=0∧H=baseS .nsl)∨(0<k∧H=baseS (AccV 8 6 (((ws.take k).map fun x=>(docS x).1).map OpR.cs))++[AccB (((ws.take k).map fun x=>(docS x).1).map OpR.cs)])))
  (fun e H=>e=.ret∧ ∃(k:Nat) (n:Int),scrG docS ws=([],k,n)∧ ∃x more,H=[some (.row [.nsl]),some (.row [.i k]),some (.row [.i n]),some (.row [x]),none,none,none,some .dfr]++more) rfl rfl rfl
  (by repeat (first|exact trivial|refine⟨⟨rfl,rfl⟩,?_⟩)) rfl rfl rfl rfl (by decide) (by decide) AsgOk_in rfl ?_ ?_ ⟨by simp,.inl ⟨rfl,rfl⟩⟩ ?_ ?_ ?_
 ·intro k x hx
  rw[List.getElem?_map] at hx
  cases h:ws[k]? with
  |none=>rw[h] at hx;simp at hx
  |some c=>rw[h] at hx;simp at hx;subst hx;rfl
 ·intro Y hx hY
  have:=hsq1 Y hx hY
  rw[hx] at this
  exact this
 ·rintro l k x H' hx ⟨hok,hH⟩ hl hY
  obtain ⟨wd,hwd,rfl⟩: ∃wd,ws[k]? =some wd∧x=.d (str wd):=by
   rw[List.getElem?_map] at hx
   cases h:ws[k]? with
   |none=>rw[h] at hx;simp at hx
   |some c=>rw[h] at hx;simp at hx;exact⟨c,rfl,hx.symm⟩
  have hlt:k<ws.length:=(List.getElem?_eq_some_iff.1 hwd).1
  have hwe:ws[k]=wd:=(List.getElem?_eq_some_iff.1 hwd).2
  have hlen:=hpm wd (hwe▸List.getElem_mem hlt)
  have hP:=script_Parse wd (by omega)
  have hbad:=scr_at hlt hok
  rw[hwe] at hbad
  have htk:ws.take (k+1)=ws.take k++[wd]:=by rw[List.take_succ_eq_append_getElem hlt,hwe]
  have hrl:(((ws.take k).map fun x=>(docS x).1).map OpR.cs).length=k:=by simp;omega
  refine W_padH (H2:=baseS (AccV 8 6 (((ws.take k).map fun x=>(docS x).1).map OpR.cs))++[AccB (((ws.take k).map fun x=>(docS x).1).map OpR.cs)]) ?_ ?_
  ·rcases hH with ⟨rfl,rfl⟩|⟨_,rfl⟩
   ·exact .inr (by rw[List.take_zero,List.map_nil,List.map_nil,AccV_nil,AccB_nil])
   ·exact .inl rfl
  have hro:(((ws.take (k+1)).map fun x=>(docS x).1).map OpR.cs)=(((ws.take k).map fun x=>(docS x).1).map OpR.cs)++[(docS wd).1.cs]:=by rw[htk];simp
  have hok1:(docS wd).2=0→ ∀x∈ws.take (k+1),(docS x).2=0:=fun h x hx=>by
   rw[htk] at hx
   rcases List.mem_append.1 hx with hx|hx
   ·exact hok x hx
   ·simp at hx;subst hx;exact h
  generalize hrw:(((ws.take k).map fun x=>(docS x).1).map OpR.cs)=rows at *
  have hr6: ∀r∈rows,r.length=6:=by rw[← hrw];exact cs6
  generalize docS wd=q at *
  obtain ⟨o,n⟩:=q
  dsimp only at hP hro hok1 hbad
  refine W_run tt_ok ?_
  by_cases hn0:n=0
  ·have hne:(n != 0)=false:=by rw[hn0];rfl
   have ha:=Acc_app (b:=8) (sz:=6) (rows:=rows) (new:=[o.cs]) (by simp)
   obtain ⟨od,oa,ob,oc,ofl,op⟩:=o
   repeat' ((conv=>whnf);(first
    |refine Br_false (by assumption) ?_
    |refine Fn.use (hP) rfl rfl ?_
    |refine force_in ?_))
   refine Ch_r ?_
   conv=>whnf
   refine App_acc rows [OpR.cs ⟨od,oa,ob,oc,ofl,op⟩] rfl rfl rfl rfl (by simp) hr6 (by intro r hr;simp at hr;subst hr;rfl) (by rw[hrl];simp only[List.length_cons,List.length_nil];omega) (Nat.le_of_ble_eq_true rfl) ?_
   skip
   conv=>whnf
   refine Rd_next (baseS (.msl 8 0 (rows.length+1) (rows.length+1) 6)++[some (.row ((rows++[OpR.cs ⟨od,oa,ob,oc,ofl,op⟩]).flatten.map .d))]) (Wk_ren [0,1,2,3,4,5,6,7,10] rfl rfl (by refine⟨⟨rfl,rfl⟩,⟨rfl,rfl⟩,⟨rfl,rfl⟩,⟨rfl,rfl⟩,⟨rfl,rfl⟩,⟨by rw[renB_row];rfl,lowB_row _ _⟩,trivial⟩) (by repeat (first|exact trivial|refine⟨⟨rfl,rfl⟩,?_⟩)) (by show 8≤9;decide) (by show∀i,i<8→gOf [0,1,2,3,4,5,6,7,10] i=i;decide)) rfl (by simp[baseS]) ⟨hok1 hn0,.inr ⟨by omega,?_⟩⟩
   rw[hro,ha.1,ha.2]
   rfl
  ·have hne:(n != 0)=true:=by simp[hn0]
   obtain ⟨od,oa,ob,oc,ofl,op⟩:=o
   by_cases hr0:rows=[]
   ·obtain rfl:k=0:=by rw[← hrl,hr0];rfl
    rw[hr0,AccV_nil,AccB_nil]
    repeat' ((conv=>whnf);(first
     |refine W_float 0 3 41 tt_ok mixed (by kernel_rfl) ?_
     |refine And.intro (fun _=>rfl) ?_
     |refine Br_true (by assumption) ?_
     |refine Fn.use (hP) rfl rfl ?_
     |refine Rd_ret ([some (.row [.nsl]),some (.row [.i 0]),some (.row [.i n]),some (.row [.nsl]),none,none,none,some .dfr]++[none,some (.row (List.map .d (OpR.cs ⟨od,oa,ob,oc,ofl,op⟩)))]) (Wk_env (by repeat (first|exact trivial|refine⟨rfl,?_⟩))) rfl (by simp) ⟨rfl,0,n,hbad hn0,_,_,rfl⟩))
   ·subst hrl
    rw[AccV_cons hr0,AccB_cons hr0]
    repeat' ((conv=>whnf);(first
     |refine W_float 0 3 41 tt_ok mixed (by kernel_rfl) ?_
     |refine And.intro (fun _=>rfl) ?_
     |refine Br_true (by assumption) ?_
     |refine Fn.use (hP) rfl rfl ?_
     |refine Rd_ret ([some (.row [.nsl]),some (.row [.i rows.length]),some (.row [.i n]),some (.row [.msl 8 0 rows.length rows.length 6]),none,none,none,some .dfr]++[some (.row (rows.flatten.map .d)),some (.row (List.map .d (OpR.cs ⟨od,oa,ob,oc,ofl,op⟩)))]) (Wk_env (by repeat (first|exact trivial|refine⟨rfl,?_⟩))) rfl (by simp) ⟨rfl,rows.length,n,hbad hn0,_,_,rfl⟩))
 ·rintro H' ⟨hok,hH⟩ hl hY
  rw[List.length_map] at hok hH
  rw[List.take_length] at hok hH
  rcases hH with ⟨h0,_⟩|⟨h0,rfl⟩
  ·exact absurd (List.length_eq_zero_iff.1 h0) hnl
  ·rw[scr_ok hok]
   have hne:((ws.map fun x=>(docS x).1).map OpR.cs)≠[]:=by simpa using hnl
   have hml:((ws.map fun x=>(docS x).1).map OpR.cs).length=ws.length:=by simp
   rw[AccV_cons hne,AccB_cons hne]
   repeat' ((conv=>whnf);(first
    |refine W_float 0 3 41 tt_ok mixed (by kernel_rfl) ?_
    |refine And.intro (fun _=>rfl) ?_
    |refine finD (F:=[8]) (FV_tups ⟨FV_tab _ rfl rfl rfl cs6,sameI (by simp),.same _ rfl,trivial⟩)))
 ·rintro e' H' c _ ⟨rfl,k,n,hp,x,more,rfl⟩ hl hY
  rw[hp]
  repeat' ((conv=>whnf);(first
   |refine finD (F:=[]) (FV_tups ⟨.nsl,.same _ rfl,.same _ rfl,trivial⟩)))
end Go.Eng
namespace Go.Eng
open Go Go.Proofs
theorem cs3o {l:List Step}: ∀r∈l.map Step.cs,r.length=3:=by intro r hr;obtain ⟨x,_,rfl⟩:=List.mem_map.1 hr;rfl
set_option maxHeartbeats 1000000 in
theorem law24_own (o:OpR) (hp:o.p.length≤1000):Fn Tryz.prog 13 [aggD o.cs] (aggD o.cs):=by
 obtain ⟨d,a,b,c,fl,p⟩:=o
 simp only at hp
 refine Fn_of tt_ok Tryz.func13 rfl (by decide) Tryz.ntmps13 rfl ?_
 have hpl:(p.map Step.cs).length=p.length:=by simp
 skip
 refine W_loop (fun μ s=> ∃(j:Nat) (w:List Step),j≤p.length∧μ=p.length-j∧w=p.take j∧
   s=⟨[(1,.ptr 0 0),(2,.ptr 1 0),(3,.ptr 2 0),(4,.i j)],48,[some (.row [.i d,.i a,.i b,.i c,.b fl,.d (stepsD p)]),some (.row [.i 0,.i 0,.i 0,.i 0,.b false,.nsl]),some (.row [.i d,.i a,.i b,.i c,.b fl,AccV 3 3 (w.map Step.cs)]),AccB (w.map Step.cs)],0,[]⟩) p.length ⟨_,?_,0,[],by omega,by omega,by simp,rfl⟩ ?_
 ·rw[List.map_nil,AccV_nil,AccB_nil]
  exact Wk.trans Wk_pad (Wk_env (by repeat (first|exact trivial|refine⟨rfl,?_⟩)))
 rintro μ s1 ⟨j,w,hj,rfl,hw,rfl⟩
 have hwl:w.length=j:=by rw[hw];simp;omega
 by_cases hlt:j<p.length
 ·refine W_run tt_ok ?_
  have htk:p.take (j+1)=w++[p[j]]:=by rw[hw];exact List.take_succ_eq_append_getElem hlt
  have hidx:(p.map Step.cs)[(j:Int).toNat]? =some (p[j]).cs:=by simp[hlt]
  generalize p[j]=x at *
  obtain ⟨xf,xa,xb⟩:=x
  have ha:=Acc_app (b:=4) (sz:=3) (rows:=w.map Step.cs) (new:=[(⟨xf,xa,xb⟩:Step).cs]) (by simp)
  have hlim:(w.map Step.cs).length+[(⟨xf,xa,xb⟩:Step).cs].length≤1000000:=by simp only[List.length_map,List.length_cons,List.length_nil];omega
  repeat' ((conv=>whnf);(first
   |refine W_float 0 0 22 tt_ok mixed (by kernel_rfl) ?_
   |refine And.intro (fun _=>rfl) ?_
   |(refine App_acc (w.map Step.cs) [(⟨xf,xa,xb⟩:Step).cs] rfl rfl rfl rfl (by simp) cs3o (by intro r hr;simp at hr;subst hr;rfl) hlim (Nat.le_of_ble_eq_true rfl) ?_)
   |refine Br_true (decide_eq_true (by omega)) ?_
   |refine Len_in (fun hlen=>?_)
   |refine Idx_in _ hidx (by omega) rfl ?_
   |refine Back_in _ (p.length-(j+1)) ⟨j+1,w++[⟨xf,xa,xb⟩],by omega,rfl,htk.symm,rfl⟩ (by omega) ?_
   |refine ArK_in (wrap_i64 (by omega) (by omega)) ?_
   |refine force_in ?_))
  refine Wk_H [some (.row [.i d,.i a,.i b,.i c,.b fl,.d (stepsD p)]),some (.row [.i 0,.i 0,.i 0,.i 0,.b false,.nsl]),some (.row [.i d,.i a,.i b,.i c,.b fl,.msl 4 0 ((w.map Step.cs).length+1) ((w.map Step.cs).length+1) 3]),none,some (.row ((w.map Step.cs++[(⟨xf,xa,xb⟩:Step).cs]).flatten.map .d))] (by kernel_rfl) ?_
  refine Wk_H [some (.row [.i d,.i a,.i b,.i c,.b fl,.d (stepsD p)]),some (.row [.i 0,.i 0,.i 0,.i 0,.b false,.nsl]),some (.row [.i d,.i a,.i b,.i c,.b fl,AccV 4 3 (w.map Step.cs++[(⟨xf,xa,xb⟩:Step).cs])]),none,AccB (w.map Step.cs++[(⟨xf,xa,xb⟩:Step).cs])] (by rw[ha.1,ha.2];rfl) ?_
  rw[show (w++[(⟨xf,xa,xb⟩:Step)]).map Step.cs=w.map Step.cs++[(⟨xf,xa,xb⟩:Step).cs] by simp]
  refine Wk_fzI [0,1,2,4] [0,1,2,4] [] ?_ ?_ ?_ ?_ ?_ ?_ ?_ ?_ ?_
  all_goals first
   |exact⟨.inr rfl,.inr rfl,.inr rfl,.inr rfl,trivial⟩
   |exact⟨⟨_,rfl,FB_rows ⟨.same _ rfl,.same _ rfl,.same _ rfl,.same _ rfl,.same _ rfl,.same _ rfl,trivial⟩⟩,⟨_,rfl,FB_rows ⟨.same _ rfl,.same _ rfl,.same _ rfl,.same _ rfl,.same _ rfl,.same _ rfl,trivial⟩⟩,⟨_,rfl,FB_rows ⟨.same _ rfl,.same _ rfl,.same _ rfl,.same _ rfl,.same _ rfl,FV_accM rfl,trivial⟩⟩,HFz_acc rfl trivial⟩
   |exact⟨.ptr _ _ _ rfl,.ptr _ _ _ rfl,.ptr _ _ _ rfl,.same _ rfl,trivial⟩
   |(show 0≤4;decide)
   |(intro i hi;omega)
   |rfl
 ·have hwp:w=p:=by rw[hw];exact List.take_of_length_le (by omega)
  subst hwp
  refine W_wk (Wk_fz [0,1,2] [3] (ρ':=[(1,.ptr 0 0),(2,.ptr 1 0),(3,.ptr 2 0),(4,.i j)]) (H':=[some (.row [.i d,.i a,.i b,.i c,.b fl,.d (stepsD w)]),some (.row [.i 0,.i 0,.i 0,.i 0,.b false,.nsl]),some (.row [.i d,.i a,.i b,.i c,.b fl,.d (stepsD w)])]) rfl rfl rfl ⟨⟨_,rfl,FB_rows ⟨.same _ rfl,.same _ rfl,.same _ rfl,.same _ rfl,.same _ rfl,.same _ rfl,trivial⟩⟩,⟨_,rfl,FB_rows ⟨.same _ rfl,.same _ rfl,.same _ rfl,.same _ rfl,.same _ rfl,.same _ rfl,trivial⟩⟩,⟨_,rfl,FB_rows ⟨.same _ rfl,.same _ rfl,.same _ rfl,.same _ rfl,.same _ rfl,FV_accF (w.map Step.cs) (by simp) rfl cs3o,trivial⟩⟩,trivial⟩ ⟨.ptr _ _ _ rfl,.ptr _ _ _ rfl,.ptr _ _ _ rfl,.same _ rfl,trivial⟩ (by decide) (by intro i hi;omega)) ?_
  refine W_run tt_ok ?_
  repeat' ((conv=>whnf);(first
   |refine Br_false (decide_eq_false (by omega)) ?_
   |refine Len_in (fun hlen=>?_)
   |refine fin0 rfl ?_))
  rfl
set_option maxHeartbeats 1000000 in
theorem law24_told (o:OpR) (hp:o.p.length≤1000):Fn Tryz.prog 16 [aggD o.cs] (aggD o.cs):=by
 obtain ⟨d,a,b,c,fl,p⟩:=o
 simp only at hp
 refine Fn_of tt_ok Tryz.func16 rfl (by decide) Tryz.ntmps16 rfl ?_
 have hpl:(p.map Step.cs).length=p.length:=by simp
 skip
 refine W_loop (fun μ s=> ∃(j:Nat) (w:List Step),j≤p.length∧μ=p.length-j∧w=p.take j∧
   s=⟨[(1,.ptr 0 0),(2,.ptr 1 0),(3,.ptr 2 0),(4,.i j)],48,[some (.row [.i d,.i a,.i b,.i c,.b fl,.d (stepsD p)]),some (.row [.i 0,.i 0,.i 0,.i 0,.b false,.nsl]),some (.row [.i d,.i a,.i b,.i c,.b fl,AccV 3 3 (w.map Step.cs)]),AccB (w.map Step.cs)],0,[]⟩) p.length ⟨_,?_,0,[],by omega,by omega,by simp,rfl⟩ ?_
 ·rw[List.map_nil,AccV_nil,AccB_nil]
  exact Wk.trans Wk_pad (Wk_env (by repeat (first|exact trivial|refine⟨rfl,?_⟩)))
 rintro μ s1 ⟨j,w,hj,rfl,hw,rfl⟩
 have hwl:w.length=j:=by rw[hw];simp;omega
 by_cases hlt:j<p.length
 ·refine W_run tt_ok ?_
  have htk:p.take (j+1)=w++[p[j]]:=by rw[hw];exact List.take_succ_eq_append_getElem hlt
  have hidx:(p.map Step.cs)[(j:Int).toNat]? =some (p[j]).cs:=by simp[hlt]
  generalize p[j]=x at *
  obtain ⟨xf,xa,xb⟩:=x
  have ha:=Acc_app (b:=4) (sz:=3) (rows:=w.map Step.cs) (new:=[(⟨xf,xa,xb⟩:Step).cs]) (by simp)
  have hlim:(w.map Step.cs).length+[(⟨xf,xa,xb⟩:Step).cs].length≤1000000:=by simp only[List.length_map,List.length_cons,List.length_nil];omega
  repeat' ((conv=>whnf);(first
   |refine W_float 0 0 27 tt_ok mixed (by kernel_rfl) ?_
   |refine And.intro (fun _=>rfl) ?_
   |(refine App_acc (w.map Step.cs) [(⟨xf,xa,xb⟩:Step).cs] rfl rfl rfl rfl (by simp) cs3o (by intro r hr;simp at hr;subst hr;rfl) hlim (Nat.le_of_ble_eq_true rfl) ?_)
   |refine Br_true (decide_eq_true (by omega)) ?_
   |refine Len_in (fun hlen=>?_)
   |refine Idx_in _ hidx (by omega) rfl ?_
   |refine Back_in _ (p.length-(j+1)) ⟨j+1,w++[⟨xf,xa,xb⟩],by omega,rfl,htk.symm,rfl⟩ (by omega) ?_
   |refine ArK_in (wrap_i64 (by omega) (by omega)) ?_
   |refine force_in ?_))
  refine Wk_H [some (.row [.i d,.i a,.i b,.i c,.b fl,.d (stepsD p)]),some (.row [.i 0,.i 0,.i 0,.i 0,.b false,.nsl]),some (.row [.i d,.i a,.i b,.i c,.b fl,.msl 4 0 ((w.map Step.cs).length+1) ((w.map Step.cs).length+1) 3]),none,some (.row ((w.map Step.cs++[(⟨xf,xa,xb⟩:Step).cs]).flatten.map .d))] (by kernel_rfl) ?_
  refine Wk_H [some (.row [.i d,.i a,.i b,.i c,.b fl,.d (stepsD p)]),some (.row [.i 0,.i 0,.i 0,.i 0,.b false,.nsl]),some (.row [.i d,.i a,.i b,.i c,.b fl,AccV 4 3 (w.map Step.cs++[(⟨xf,xa,xb⟩:Step).cs])]),none,AccB (w.map Step.cs++[(⟨xf,xa,xb⟩:Step).cs])] (by rw[ha.1,ha.2];rfl) ?_
  rw[show (w++[(⟨xf,xa,xb⟩:Step)]).map Step.cs=w.map Step.cs++[(⟨xf,xa,xb⟩:Step).cs] by simp]
  refine Wk_fzI [0,1,2,4] [0,1,2,4] [] ?_ ?_ ?_ ?_ ?_ ?_ ?_ ?_ ?_
  all_goals first
   |exact⟨.inr rfl,.inr rfl,.inr rfl,.inr rfl,trivial⟩
   |exact⟨⟨_,rfl,FB_rows ⟨.same _ rfl,.same _ rfl,.same _ rfl,.same _ rfl,.same _ rfl,.same _ rfl,trivial⟩⟩,⟨_,rfl,FB_rows ⟨.same _ rfl,.same _ rfl,.same _ rfl,.same _ rfl,.same _ rfl,.same _ rfl,trivial⟩⟩,⟨_,rfl,FB_rows ⟨.same _ rfl,.same _ rfl,.same _ rfl,.same _ rfl,.same _ rfl,FV_accM rfl,trivial⟩⟩,HFz_acc rfl trivial⟩
   |exact⟨.ptr _ _ _ rfl,.ptr _ _ _ rfl,.ptr _ _ _ rfl,.same _ rfl,trivial⟩
   |(show 0≤4;decide)
   |(intro i hi;omega)
   |rfl
 ·have hwp:w=p:=by rw[hw];exact List.take_of_length_le (by omega)
  subst hwp
  refine W_wk (Wk_fz [0,1,2] [3] (ρ':=[(1,.ptr 0 0),(2,.ptr 1 0),(3,.ptr 2 0),(4,.i j)]) (H':=[some (.row [.i d,.i a,.i b,.i c,.b fl,.d (stepsD w)]),some (.row [.i 0,.i 0,.i 0,.i 0,.b false,.nsl]),some (.row [.i d,.i a,.i b,.i c,.b fl,.d (stepsD w)])]) rfl rfl rfl ⟨⟨_,rfl,FB_rows ⟨.same _ rfl,.same _ rfl,.same _ rfl,.same _ rfl,.same _ rfl,.same _ rfl,trivial⟩⟩,⟨_,rfl,FB_rows ⟨.same _ rfl,.same _ rfl,.same _ rfl,.same _ rfl,.same _ rfl,.same _ rfl,trivial⟩⟩,⟨_,rfl,FB_rows ⟨.same _ rfl,.same _ rfl,.same _ rfl,.same _ rfl,.same _ rfl,FV_accF (w.map Step.cs) (by simp) rfl cs3o,trivial⟩⟩,trivial⟩ ⟨.ptr _ _ _ rfl,.ptr _ _ _ rfl,.ptr _ _ _ rfl,.same _ rfl,trivial⟩ (by decide) (by intro i hi;omega)) ?_
  refine W_run tt_ok ?_
  repeat' ((conv=>whnf);(first
   |refine Br_false (decide_eq_false (by omega)) ?_
   |refine Len_in (fun hlen=>?_)
   |refine fin0 rfl ?_))
  rfl
end Go.Eng
namespace Go.Eng
open Go Go.Proofs
theorem str_add (a b:List UInt8):(⟨a.toArray⟩:ByteArray)++(⟨b.toArray⟩:ByteArray)=⟨(a++b).toArray⟩:=by
 rw[str_app]
end Go.Eng
namespace Go.Eng
open Go Go.Proofs
end Go.Eng
namespace Go.Eng
open Go Go.Proofs
structure TOut where
 number:Int
 err:Int
 focus:Int
 acts:List (Int×Int)
def actC (a:Int×Int):List D:=[.i a.1,.i a.2]
def TOut.cs (o:TOut):List D:=[.i o.number,.i o.err,.i o.focus,.sl (o.acts.map actC)]
def actW (a:Int×Int):List UInt8:=it a.1++58::it a.2
def outW (o:TOut):List (List UInt8):=joinL 32 [it o.number,it o.err,it o.focus]::o.acts.map actW
@[irreducible] def outV (o:TOut):List UInt8:=joinL 32 (outW o)
structure rngO (o:TOut):Prop where
 h1:i64B o.number
 h2:i64B o.err
 h3:i64B o.focus
 h4: ∀a∈o.acts,i64B a.1∧i64B a.2
 h5:o.acts.length≤1000
theorem actW_len {a:Int×Int} (h:i64B a.1∧i64B a.2):(actW a).length≤43:=by
 have h1:=it_len h.1
 have h2:=it_len h.2
 unfold actW
 simp only[List.length_append,List.length_cons]
 omega
theorem line3_len {a b c:Int} (ha:i64B a) (hb:i64B b) (hc:i64B c):(joinL 32 [it a,it b,it c]).length≤65:=by
 have h1:=it_len ha
 have h2:=it_len hb
 have h3:=it_len hc
 simp only[joinL,List.length_append,List.length_cons]
 omega
theorem outW_len {o:TOut} (h:rngO o): ∀w∈outW o,w.length≤65:=by
 intro w hw
 unfold outW at hw
 rcases List.mem_cons.1 hw with rfl|hw
 ·exact line3_len h.h1 h.h2 h.h3
 ·obtain ⟨a,ha,rfl⟩:=List.mem_map.1 hw
  have:=actW_len (h.h4 a ha)
  omega
theorem outV_len {o:TOut} (h:rngO o):(outV o).length≤70000:=by
 unfold outV
 have h5:=h.h5
 refine Nat.le_trans (joinL_len' 32 _ 65 (outW_len h)) (Nat.le_trans (Nat.mul_le_mul_right _ (by unfold outW;simp;omega:_≤1001)) (by omega))
set_option maxHeartbeats 2000000 in
theorem tell_Out (o:TOut) (h:rngO o):Fn Tryz.prog 60 [aggD o.cs] (.d (str (outV o))):=by
 refine Fn_of tt_ok Tryz.func60 rfl (by decide) Tryz.ntmps60 rfl ?_
 have hi:=itoa_any o.number h.h1.1 h.h1.2
 have hil:=it_len h.h1
 have hli:=tell_line (it o.number) [o.err,o.focus] (by omega) (by simp) (by intro n hn;simp at hn;rcases hn with rfl|rfl <;> first|exact h.h2|exact h.h3)
 have hwl:=outW_len h
 have hlen5:=h.h5
 have hol:=outV_len h
 have ho:outV o=joinL 32 (outW o):=by unfold outV;rfl
 rw[ho] at hol⊢
 have hW:outW o=joinL 32 (it o.number::[o.err,o.focus].map it)::o.acts.map actW:=rfl
 generalize joinL 32 (it o.number::[o.err,o.focus].map it)=w0 at *
 have hacl:(o.acts.map actC).length=o.acts.length:=by simp
 refine W_draw 3 tt_ok mixed (by kernel_rfl) ?_
 conv=>whnf
 refine CallF_in hi rfl rfl ?_
 conv=>whnf
 refine Ch_r ?_
 conv=>whnf
 refine CallF_in hli rfl rfl ?_
 conv=>whnf
 refine Ch_l ?_
 conv=>whnf
 refine Len_in (fun hlen=>?_)
 refine W_loop (fun μ s=> ∃(k:Nat) (ws:List (List UInt8)),k≤o.acts.length∧μ=o.acts.length-k∧ws=w0::(o.acts.take k).map actW∧s=⟨[(3,AccV 1 1 (ws.map fun x=>[str x])),(17,.d (.sl (o.acts.map actC))),(18,.i (o.acts.map actC).length),(19,.i k)],37,[some (.row (o.cs.map .d)),AccB (ws.map fun x=>[str x])],0,[]⟩) o.acts.length
  ⟨⟨[(3,.msl 1 0 1 1 1),(17,.d (.sl (o.acts.map actC))),(18,.i (o.acts.map actC).length),(19,.i 0)],37,[some (.row (o.cs.map .d)),some (.row [.d (str w0)])],0,[]⟩,?_,0,[w0],by omega,by omega,by simp,by rw[AccV_cons (by simp),AccB_cons (by simp)];rfl⟩ ?_
 ·exact Wk_env (by repeat (first|exact trivial|refine⟨rfl,?_⟩))
 clear hi hli
 rintro μ s1 ⟨k,ws,hk,rfl,hws,rfl⟩
 have hwsl:ws.length=k+1:=by rw[hws];simp;omega
 have hsz: ∀(v:List (List UInt8)),∀r∈v.map (fun x=>[str x]),r.length=1:=fun v r hr=>by
  obtain ⟨x,_,rfl⟩:=List.mem_map.1 hr;rfl
 refine W_run tt_ok ?_
 refine Br_dec (fun h'=>?_) (fun h'=>?_)
 ·have hlt:k<o.acts.length:=by rw[hacl] at h';omega
  have hidx:(o.acts.map actC)[(k:Int).toNat]? =some (actC o.acts[k]):=by simp[hlt]
  have htk:w0::(o.acts.take (k+1)).map actW=ws++[actW o.acts[k]]:=by rw[hws,List.take_succ_eq_append_getElem hlt,List.map_append];rfl
  have hb:=h.h4 _ (List.getElem_mem hlt)
  generalize o.acts[k]=a at *
  obtain ⟨ar,an⟩:=a
  have hit1:=itoa_any ar hb.1.1 hb.1.2
  have hit2:=itoa_any an hb.2.1 hb.2.2
  have hl1:(Lib.itoa ar).length≤21:=it_len hb.1
  have hl2:(Lib.itoa an).length≤21:=it_len hb.2
  have hres:(((⟨(Lib.itoa ar).toArray⟩:ByteArray)++(⟨[58].toArray⟩:ByteArray))++(⟨(Lib.itoa an).toArray⟩:ByteArray))=⟨(actW (ar,an)).toArray⟩:=by
   rw[str_add,str_add];unfold actW;simp
  have hmap:(ws++[actW (ar,an)]).map (fun x=>[str x])=(ws.map fun x=>[str x])++[[D.str (((⟨(Lib.itoa ar).toArray⟩:ByteArray)++(⟨[58].toArray⟩:ByteArray))++(⟨(Lib.itoa an).toArray⟩:ByteArray))]]:=by rw[hres];simp[str]
  generalize Lib.itoa ar=x1 at *
  generalize Lib.itoa an=x2 at *
  have ha:=Acc_app (b:=1) (sz:=1) (rows:=ws.map fun x=>[str x]) (new:=[[D.str (((⟨x1.toArray⟩:ByteArray)++(⟨[58].toArray⟩:ByteArray))++(⟨x2.toArray⟩:ByteArray))]]) (by simp)
  repeat' ((conv=>whnf);(first
   |refine Idx_in _ hidx (by omega) rfl ?_
   |refine W_draw 0 tt_ok mixed (by kernel_rfl) ?_
   |refine CallF_in (hit1) rfl rfl ?_
   |refine CallF_in (hit2) rfl rfl ?_
   |(refine Need_in (by simp only[str_add,str_size,List.length_append];unfold LB;simp;omega) ?_)
   |refine force_in ?_))
  conv=>whnf
  refine App_acc (ws.map fun x=>[str x]) [[D.str (((⟨x1.toArray⟩:ByteArray)++(⟨[58].toArray⟩:ByteArray))++(⟨x2.toArray⟩:ByteArray))]] rfl rfl rfl rfl (by simp) (hsz _) (by intro r hr;simp at hr;subst hr;rfl) (by simp only[List.length_map,List.length_cons,List.length_nil];omega) (Nat.le_of_ble_eq_true rfl) ?_
  repeat' ((conv=>whnf);(first
   |(refine Back_in ⟨[(3,.msl 1 0 ((ws.map fun x=>[str x]).length+1) ((ws.map fun x=>[str x]).length+1) 1),(17,.d (.sl (o.acts.map actC))),(18,.i (o.acts.map actC).length),(19,.i (k+1:Nat))],37,[some (.row (o.cs.map .d)),some (.row (((ws.map fun x=>[str x])++[[D.str (((⟨x1.toArray⟩:ByteArray)++(⟨[58].toArray⟩:ByteArray))++(⟨x2.toArray⟩:ByteArray))]]).flatten.map .d))],0,[]⟩ _ ⟨k+1,ws++[actW (ar,an)],by omega,rfl,htk.symm,?_⟩ (by omega) (Wk_ren [0,3] rfl rfl ⟨⟨rfl,rfl⟩,⟨by rw[renB_row];rfl,lowB_row _ _⟩,trivial⟩ (by repeat (first|exact trivial|refine⟨⟨rfl,rfl⟩,?_⟩)) (by decide) (by omega)))
   |refine ArK_in (wrap_i64 (by omega) (by omega)) ?_))
  rw[hmap,ha.1,ha.2]
  rfl
 ·have hkl:o.acts.length≤k:=by rw[hacl] at h';omega
  rw[List.take_of_length_le hkl] at hws
  rw[hW,←hws] at hol⊢
  have hjn:=join_c ws 32 (by omega) (by omega)
  unfold texts at hjn
  repeat' ((conv=>whnf);(first
   |refine Tri.peek hjn rfl [1] rfl (FV_args2 (FV_acc _ rfl (hsz _)) (.same _ rfl)) ?_
   |refine fin0 rfl ?_
   |refine force_in ?_))
  rfl
end Go.Eng
namespace Go.Eng
open Go Go.Proofs Go.RowKit
theorem setCell_eq {w:World} {r o:Nat} {c:Array Value} {e:TypeId} {fr:Nat×Nat} (h:w.heap[r]? =some (.cells c e fr)) (v:Value):w.setCell ⟨r,o,none⟩ v=setW w r (.cells (c.setIfInBounds o v) e fr):=by
 unfold World.setCell setW
 congr 1
 apply Array.ext_getElem?
 intro j
 rw[Array.getElem?_modify,Array.getElem?_setIfInBounds]
 split
 ·subst_vars
  rw[if_pos (lt_of_heap h),h]
  rfl
 ·rfl
set_option maxHeartbeats 1000000 in
theorem bld_fresh (b:Nat) (w:World) (hb:w.heap[b]? =some (.cells #[.pointer none,.slice none 0 0] 126 (0,0))):
  Calls Tryz.prog 90 #[.pointer (some ⟨b,0,none⟩)] w fun e w'=>e=.returned (.tuple #[])∧w'=w.setCell ⟨b,0,none⟩ (.pointer (some ⟨b,0,none⟩)):=by
 have h0:w.cell? ⟨b,0,none⟩=some (.pointer none):=by simp[World.cell?,hb]
 have hsh:w.shape? b=some (126,2):=by simp[World.shape?,hb]
 have hfz:w.frozen? ⟨b,0,none⟩=false:=by simp[World.frozen?,hb]
 obtain ⟨j,hj,hjs⟩:=Option.map_eq_some_iff.1 (show (Tryz.prog.info? 126).map (·.size)=some 2 by kernel_rfl)
 have hlies:liesAt Tryz.prog Tryz.prog.depth 126 (2 / Tryz.prog.cellsOf 126) 0 126 1=true:=by kernel_rfl
 have mixed:=mixed
 have t1:=Tryz.underlying126;have a1:=Tryz.isAgg126;have z1:=Tryz.sizeOf126;have v1:=Tryz.zeroValue126;have u1:=run_underlying t1
 have t2:=Tryz.underlying124;have a2:=Tryz.isAgg124;have z2:=Tryz.sizeOf124;have v2:=Tryz.zeroValue124;have u2:=run_underlying t2
 have t4:=Tryz.underlying4;have a4:=Tryz.isAgg4;have z4:=Tryz.sizeOf4;have v4:=Tryz.zeroValue4;have u4:=run_underlying t4
 have t5:=Tryz.underlying211;have a5:=Tryz.isAgg211;have z5:=Tryz.sizeOf211;have v5:=Tryz.zeroValue211;have u5:=run_underlying t5
 go_enter Tryz.func90,Tryz.ntmps90
 go_wp2
 rw[Lib.run_to_unsafe w ⟨b,0,none⟩ t2 t5 hj (by rw[hjs];decide) hsh (Nat.zero_lt_succ 1)]
 simp only[Result.andThen]
 rw[Oper.upon_value]
 go_wp2
 rw[run_callFunc_extern Tryz.func118 (by kernel_rfl) (by kernel_rfl) (by kernel_rfl) (e:=Extern.AbiNoEscape.same) (by kernel_rfl)]
 rw[Lib.run_noEscape]
 simp only[Result.andThen]
 rw[Oper.upon_value]
 go_wp2
 rw[Lib.run_from_unsafe w ⟨b,0,none⟩ t5 t2 hj hsh hlies]
 simp only[Result.andThen]
 rw[Oper.upon_value]
 go_wp2
 go_end0
 exact⟨rfl,rfl⟩
end Go.Eng
namespace Go.Eng
open Go Go.Proofs Go.RowKit
set_option maxHeartbeats 1000000 in
theorem bld_str (b g cap size:Nat) (l:List UInt8) (w:World) (h0:l≠[]) (hcap:cap≠0) (hb:w.cell? ⟨b,1,none⟩=some (.slice (some ⟨g,0,none⟩) l.length cap)) (hsh:w.shape? g=some (5,size))
  (hsz:l.length≤size) (hl:l.length≤281474976710656) (hc: ∀(j:Nat) (x:UInt8),l[j]? =some x→w.cell? ⟨g,j,none⟩=some (.int .u8 x.toNat)):
  Calls Tryz.prog 62 #[.pointer (some ⟨b,0,none⟩)] w fun e w'=>e=.returned (.string ⟨l.toArray⟩)∧w'=w.drew.freeze ⟨g,0,none⟩ l.length:=by
 have c1:w.drew.cell? ⟨b,1,none⟩=some (.slice (some ⟨g,0,none⟩) l.length cap):=hb
 have hSD:(Builtin.unsafeSliceData_ #[111] 173 #[.slice (some ⟨g,0,none⟩) l.length cap]).run Tryz.prog w.drew=.ok (.pointer (some ⟨g,0,none⟩)) w.drew:=
  Lib.run_unsafeSliceData_row _ _ _ _ _ _ hcap
 have hUS:(Builtin.unsafeString_ #[173,3] 9 #[.pointer (some ⟨g,0,none⟩),.int .i64 l.length]).run Tryz.prog w.drew=.ok (.string ⟨l.toArray⟩) (w.drew.freeze ⟨g,0,none⟩ l.length):=by
  refine Lib.run_unsafeString_row w.drew 173 3 9 5 Tryz.underlying173 (by kernel_rfl) g size hsh l h0 (by omega) (by omega) ?_
  intro j x hx
  have:=hc j x hx
  rw[addr_add,Nat.zero_add]
  exact this
 have mixed:=mixed
 have t1:=Tryz.underlying126;have a1:=Tryz.isAgg126;have z1:=Tryz.sizeOf126;have v1:=Tryz.zeroValue126;have u1:=run_underlying t1
 have t2:=Tryz.underlying124;have a2:=Tryz.isAgg124;have z2:=Tryz.sizeOf124;have v2:=Tryz.zeroValue124;have u2:=run_underlying t2
 have t3:=Tryz.underlying111;have a3:=Tryz.isAgg111;have z3:=Tryz.sizeOf111;have v3:=Tryz.zeroValue111;have u3:=run_underlying t3
 have t4:=Tryz.underlying173;have a4:=Tryz.isAgg173;have z4:=Tryz.sizeOf173;have v4:=Tryz.zeroValue173;have u4:=run_underlying t4
 have t5:=Tryz.underlying3;have a5:=Tryz.isAgg3;have z5:=Tryz.sizeOf3;have v5:=Tryz.zeroValue3;have u5:=run_underlying t5
 have t6:=Tryz.underlying9;have a6:=Tryz.isAgg9;have z6:=Tryz.sizeOf9;have v6:=Tryz.zeroValue9;have u6:=run_underlying t6
 have t7:=Tryz.underlying5;have a7:=Tryz.isAgg5;have z7:=Tryz.sizeOf5;have v7:=Tryz.zeroValue5;have u7:=run_underlying t7
 go_enter Tryz.func62,Tryz.ntmps62
 go_wp2
 go_region_o
 all_goals (go_wp2;go_ret;exact⟨rfl,rfl⟩)
set_option maxHeartbeats 1000000 in
theorem bld_str0 (b:Nat) (w:World) (hb:w.cell? ⟨b,1,none⟩=some (.slice none 0 0)):
  Calls Tryz.prog 62 #[.pointer (some ⟨b,0,none⟩)] w fun e w'=>e=.returned (.string ⟨#[]⟩)∧w'=w.drew:=by
 have c1:w.drew.cell? ⟨b,1,none⟩=some (.slice none 0 0):=hb
 have hSD:(Builtin.unsafeSliceData_ #[111] 173 #[.slice none 0 0]).run Tryz.prog w.drew=.ok (.pointer none) w.drew:=rfl
 have hUS: ∀(W:World) (q:Option Addr),(Builtin.unsafeString_ #[173,3] 9 #[.pointer q,.int .i64 0]).run Tryz.prog W=.ok (.string .empty) W:=fun W q=>Lib.run_unsafeString_none W _ _ _ q
 have mixed:=mixed
 have t1:=Tryz.underlying126;have a1:=Tryz.isAgg126;have z1:=Tryz.sizeOf126;have v1:=Tryz.zeroValue126;have u1:=run_underlying t1
 have t2:=Tryz.underlying124;have a2:=Tryz.isAgg124;have z2:=Tryz.sizeOf124;have v2:=Tryz.zeroValue124;have u2:=run_underlying t2
 have t3:=Tryz.underlying111;have a3:=Tryz.isAgg111;have z3:=Tryz.sizeOf111;have v3:=Tryz.zeroValue111;have u3:=run_underlying t3
 have t4:=Tryz.underlying173;have a4:=Tryz.isAgg173;have z4:=Tryz.sizeOf173;have v4:=Tryz.zeroValue173;have u4:=run_underlying t4
 have t5:=Tryz.underlying3;have a5:=Tryz.isAgg3;have z5:=Tryz.sizeOf3;have v5:=Tryz.zeroValue3;have u5:=run_underlying t5
 have t6:=Tryz.underlying9;have a6:=Tryz.isAgg9;have z6:=Tryz.sizeOf9;have v6:=Tryz.zeroValue9;have u6:=run_underlying t6
 have t7:=Tryz.underlying5;have a7:=Tryz.isAgg5;have z7:=Tryz.sizeOf5;have v7:=Tryz.zeroValue5;have u7:=run_underlying t7
 go_enter Tryz.func62,Tryz.ntmps62
 go_wp2
 go_region_o
 all_goals (go_wp2;go_ret;exact⟨rfl,rfl⟩)
end Go.Eng
namespace Go.Eng
open Go Go.Proofs Go.RowKit
def bldZ:Blk:=.raw (.cells #[.pointer none,.slice none 0 0] 126 (0,0))
theorem ptr_arg {p:PQ} {σ:List Nat} {w:World} {args:List AV} {vs:Array Value} (hs:vs.size=args.length) (hv: ∀(i:Nat) (x:AV) (v:Value),args[i]? =some x→vs[i]? =some v→VRel p σ w x v) {i b o r:Nat} (hi:args[i]? =some (.ptr b o)) (hb:σ[b]? =some r):
  vs[i]? =some (.pointer (some ⟨r,o,none⟩)):=by
 have hlt:i<vs.size:=by rw[hs];exact(List.getElem?_eq_some_iff.1 hi).1
 have h:=hv i _ _ hi (Array.getElem?_eq_getElem hlt)
 generalize hx:vs[i]=x at h
 cases h with
 |ptr _ _ r2 h2=>
  rw[hb] at h2
  injection h2 with h2
  subst h2
  rw[Array.getElem?_eq_getElem hlt,hx]
theorem tup0 {p:PQ} {σ:List Nat} {w:World}:VRel p σ w (.tup []) (.tuple #[]):=.tup _ _ rfl fun i x v hx hv=>by simp at hx
theorem bld_check0:Tri Tryz.prog 90 [.ptr 0 0] [some bldZ] fun v H'=>v=.tup []∧H'=[some (.row [.ptr 0 0,.nsl])]:=by
 rw[Tri_eq]
 refine⟨(Ent_of Tryz.func90 rfl (by decide)),fun p σ w vs hH hs hv=>?_⟩
 obtain ⟨r,g1,g2,g3,g4⟩:=hH.blk 0 _ rfl
 have g4:w.heap[r]? =some (.cells #[.pointer none,.slice none 0 0] 126 (0,0)):=g4
 obtain rfl:=vs_1 hs (ptr_arg hs hv rfl g1)
 refine(bld_fresh r w g4).mono ?_
 rintro e w' ⟨rfl,rfl⟩
 rw[setCell_eq g4]
 have hsh:Shape w (setW w r (.cells ((#[.pointer none,.slice none 0 0]:Array Value).setIfInBounds 0 (.pointer (some ⟨r,0,none⟩))) 126 (0,0))):=.set g4 (by simp)
 refine⟨.tuple #[],.tup [],p,σ,_,rfl,.set g2 hsh,fun _ _ h=>h,hH.set (b:=0) rfl g1 _ hsh (.row [.ptr 0 0,.nsl]) ⟨_,_,_,setW_same g3,by simp,noFreeze_zero _,fun i x v hx hv=>?_⟩,tup0,rfl,rfl⟩
 match i with
 |0=>simp at hx hv;subst hx hv;exact⟨.ptr _ _ _ g1,rfl⟩
 |1=>simp at hx hv;subst hx hv;exact⟨.nsl,rfl⟩
 |i+2=>simp at hx
theorem bld_check1 (x:AV) (b:Option Blk) (hb:noY [b]=true):Tri Tryz.prog 90 [.ptr 0 0] [some (.row [.ptr 0 0,x]),b] fun v H'=>v=.tup []∧H'=[some (.row [.ptr 0 0,x]),b]:=by
 refine Tri_of (m:=2) tt_ok Tryz.func90 rfl (by decide) Tryz.ntmps90 (by rfl) rfl ?_
 repeat' ((conv=>whnf);(first
  |refine finR ?_))
 rfl
set_option maxHeartbeats 1000000 in
theorem bld_write0 (s:List UInt8) (hs:s≠[]) (hl:s.length≤1000000000):Tri Tryz.prog 59 [.ptr 0 0,.d (str s)] [some bldZ] fun v H'=>v=.tup [.i s.length,.any]∧H'=[some (.row [.ptr 0 0,.msl 1 0 s.length s.length 1]),some (.bytes 5 s)]:=by
 refine Tri_of (m:=1) tt_ok Tryz.func59 rfl (by decide) Tryz.ntmps59 (by rfl) rfl ?_
 have hsz:=str_size s
 have h0:0<s.length:=List.length_pos_iff.2 hs
 refine Tri.use bld_check0 ?_
 conv=>whnf
 refine Need_in ⟨rfl,by rw[hsz];exact h0,by rw[hsz];exact Nat.le_trans (Nat.mul_le_mul_right _ (by omega:_≤1000000200)) (Nat.le_of_ble_eq_true rfl),by rw[hsz];unfold LB;omega⟩ ?_
 repeat' ((conv=>whnf);(first
  |refine Len_in (fun hlen=>?_)
  |refine finR ?_))
 rw[hsz]
set_option maxHeartbeats 1000000 in
theorem bld_write1 (l s:List UInt8) (hl:l.length≤1000000000) (hs:s.length≤1000000000):Tri Tryz.prog 59 [.ptr 0 0,.d (str s)] [some (.row [.ptr 0 0,.msl 1 0 l.length l.length 1]),some (.bytes 5 l)] fun v H'=>v=.tup [.i s.length,.any]∧H'=[some (.row [.ptr 0 0,.msl 2 0 (l++s).length (l++s).length 1]),none,some (.bytes 5 (l++s))]:=by
 refine Tri_of (m:=2) tt_ok Tryz.func59 rfl (by decide) Tryz.ntmps59 (by rfl) rfl ?_
 have hsz:=str_size s
 have hla:(l++s).length=l.length+s.length:=by simp
 refine Tri.use (bld_check1 _ _ rfl) ?_
 conv=>whnf
 refine Need_in ⟨rfl,rfl,rfl,rfl,rfl,by rw[hsz];exact Nat.le_trans (Nat.mul_le_mul_right _ (by omega:_≤2000000200)) (Nat.le_of_ble_eq_true rfl),by rw[hsz];unfold LB;omega⟩ ?_
 rw[hla]
 repeat' ((conv=>whnf);(first
  |refine Len_in (fun hlen=>?_)
  |refine finR ?_))
 rw[hsz]
theorem freeze_same {w:World} {g n k:Nat} (h:k≠g):(w.drew.freeze ⟨g,0,none⟩ n).heap[k]? =w.heap[k]? :=by
 unfold World.freeze
 split
 ·rfl
 ·simp only[Array.getElem?_modify]
  rw[if_neg (fun e=>h e.symm)]
  rfl
theorem freeze_shape (w:World) (g n:Nat):Shape w (w.drew.freeze ⟨g,0,none⟩ n):=by
 refine⟨?_,fun r c e fr h=>?_,?_,?_,?_⟩
 ·unfold World.freeze;split <;> first|exact Nat.le_refl _|(simp only[Array.size_modify];exact Nat.le_refl _)
 ·by_cases hr:r=g
  ·subst hr
   unfold World.freeze
   split
   ·exact⟨c,fr,h,rfl⟩
   ·simp only[Array.getElem?_modify,if_true]
    have h':w.drew.heap[r]? =some (.cells c e fr):=h
    rw[h']
    exact⟨c,_,rfl,rfl⟩
  ·exact⟨c,fr,by rw[freeze_same hr];exact h,rfl⟩
 all_goals (unfold World.freeze;split <;> rfl)
theorem none_rel {p:PQ} {σ:List Nat} {H:Heap} {w w':World} (h:HRel p σ H w) (he:Ext p w p w'):HRel p σ (List.replicate H.length none) w':=by
 refine⟨by rw[h.len];simp,fun b hb=>Nat.lt_of_lt_of_le (h.lt b hb) he.shape.1,fun i k hk=>?_,fun i j r a b ha=>?_,h.gl.ext he⟩
 ·rw[List.getElem?_replicate] at hk;split at hk <;> simp at hk
 ·rw[List.getElem?_replicate] at ha;split at ha <;> simp at ha
theorem bld_string1 (l:List UInt8) (h0:l≠[]) (hl:l.length≤1000000000):Tri Tryz.prog 62 [.ptr 0 0] [some (.row [.ptr 0 0,.msl 1 0 l.length l.length 1]),some (.bytes 5 l)] fun v H'=>v=.d (str l)∧H'=[none,none]:=by
 rw[Tri_eq]
 refine⟨(Ent_of Tryz.func62 rfl (by decide)),fun p σ w vs hH hs hv=>?_⟩
 obtain ⟨r,g1,g2,g3,c,e,fr,g4,g5,g6,g7⟩:=hH.blk 0 _ rfl
 obtain ⟨r1,k1,k2,k3,c2,fr2,k4,k5,k6,k7⟩:=hH.blk 1 _ rfl
 obtain rfl:=vs_1 hs (ptr_arg hs hv rfl g1)
 have h1:c[1]? =some (c[1]'(by simp at g5;omega)):=Array.getElem?_eq_getElem _
 have h2:=(g7 1 _ _ rfl h1).1
 generalize hq:c[1]'(by simp at g5;omega)=q at h1 h2
 cases h2 with
 |msl _ _ _ _ _ r2 cap hr hB hc hcl hblk=>
 rw[k1] at hr
 injection hr with hr
 subst hr
 have hpos:0<l.length:=List.length_pos_iff.2 h0
 refine(bld_str r r1 cap c2.size l w h0 (by omega) (by rw[cell_at g4,h1]) (by simp[World.shape?,k4]) k5 (by omega) fun j x hx=>?_).mono ?_
 ·rw[cell_at k4]
  have hj:j<c2.size:=by have:=(List.getElem?_eq_some_iff.1 hx).1;omega
  have h3:c2[j]? =some c2[j]:=Array.getElem?_eq_getElem hj
  rw[h3,k7 j x _ hx h3]
 ·rintro e w' ⟨rfl,rfl⟩
  have he:Ext p w p (w.drew.freeze ⟨r1,0,none⟩ l.length):=.mk1 (fun b hb=>freeze_same fun e=>k2 (e▸hb)) (freeze_shape w r1 _)
  exact⟨_,_,p,σ,_,rfl,he,fun _ _ h=>h,none_rel hH he,.str _ (by rw[str_size];unfold LB;omega),rfl,rfl⟩
theorem bld_string0:Tri Tryz.prog 62 [.ptr 0 0] [some bldZ] fun v H'=>v=.d (str [])∧H'=[none]:=by
 rw[Tri_eq]
 refine⟨(Ent_of Tryz.func62 rfl (by decide)),fun p σ w vs hH hs hv=>?_⟩
 obtain ⟨r,g1,g2,g3,g4⟩:=hH.blk 0 _ rfl
 have g4:w.heap[r]? =some (.cells #[.pointer none,.slice none 0 0] 126 (0,0)):=g4
 obtain rfl:=vs_1 hs (ptr_arg hs hv rfl g1)
 refine(bld_str0 r w (by rw[cell_at g4];rfl)).mono ?_
 rintro e w' ⟨rfl,rfl⟩
 have he:Ext p w p w.drew:=.drawn p w _
 exact⟨_,_,p,σ,_,rfl,he,fun _ _ h=>h,none_rel hH he,.str _ (Nat.zero_le _),rfl,rfl⟩
@[irreducible] def bldB (l:List UInt8):Option Blk:=if l=[] then some bldZ else some (.row [.ptr 1 0,.msl 2 0 l.length l.length 1])
@[irreducible] def bldC (l:List UInt8):Option Blk:=if l=[] then none else some (.bytes 5 l)
theorem bldB_nil:bldB []=some bldZ∧bldC []=none:=by unfold bldB bldC;simp
theorem bldB_cons {l:List UInt8} (h:l≠[]):bldB l=some (.row [.ptr 1 0,.msl 2 0 l.length l.length 1])∧bldC l=some (.bytes 5 l):=by unfold bldB bldC;simp[h]
theorem bld_write (l s:List UInt8) (hs:s≠[]) (hl:l.length≤1000000000) (hsl:s.length≤1000000000) (r0 r3:List D) {K:AV→Heap→Prop}
  (hK:K (.tup [.i s.length,.any]) [some (.row (r0.map .d)),some (.row [.ptr 1 0,.msl 4 0 (l++s).length (l++s).length 1]),none,some (.row (r3.map .d)),some (.bytes 5 (l++s))]):
  Tri Tryz.prog 59 [.ptr 1 0,.d (str s)] [some (.row (r0.map .d)),bldB l,bldC l,some (.row (r3.map .d))] K:=by
 by_cases h:l=[]
 ·subst h
  rw[bldB_nil.1,bldB_nil.2]
  exact Tri.call (bld_write0 s hs hsl) [1] rfl rfl ⟨⟨rfl,rfl⟩,trivial⟩ rfl rfl rfl rfl rfl rfl hK
 ·rw[(bldB_cons h).1,(bldB_cons h).2]
  exact Tri.call (bld_write1 l s hl hsl) [1,2] rfl rfl ⟨⟨rfl,rfl⟩,⟨rfl,rfl⟩,trivial⟩ rfl rfl rfl rfl rfl rfl hK
theorem bld_string (l:List UInt8) (hl:l.length≤1000000000) (r0:List D) {K:AV→Heap→Prop}
  (hK:K (.d (str l)) [some (.row (r0.map .d)),none,none]):
  Tri Tryz.prog 62 [.ptr 1 0] [some (.row (r0.map .d)),bldB l,bldC l] K:=by
 by_cases h:l=[]
 ·subst h
  rw[bldB_nil.1,bldB_nil.2]
  exact Tri.call bld_string0 [1] rfl rfl ⟨⟨rfl,rfl⟩,trivial⟩ rfl rfl rfl rfl rfl rfl hK
 ·rw[(bldB_cons h).1,(bldB_cons h).2]
  exact Tri.call (bld_string1 l h hl) [1,2] rfl rfl ⟨⟨rfl,rfl⟩,⟨rfl,rfl⟩,trivial⟩ rfl rfl rfl rfl rfl rfl hK
end Go.Eng
namespace Go.Eng
open Go Go.Proofs
def lineV (v:List UInt8):List UInt8:=v++[10]
@[irreducible] def traceV (outs:List TOut) (rows:List TRow):List UInt8:=(outs.map fun o=>lineV (outV o)).flatten++(rows.map fun r=>lineV (rowV r)).flatten
theorem lineV_ne (v:List UInt8):lineV v≠[]:=by unfold lineV;simp
theorem rowV_len {r:TRow} (h:rngR r):(rowV r).length≤200:=by
 have h1:=it_len h.h1
 have h2:=it_len h.h2
 have h3:=it_len h.h3
 have h4:=it_len h.h4
 have h5:=it_len h.h5
 have h6:=it_len h.h6
 have h7:=it_len h.h7
 unfold rowV
 split
 ·rename_i ht
  have hi:=told_iff.1 ht
  unfold wordsR
  by_cases k0:r.kind=0
  ·rw[if_pos k0]
   have hty:0≤r.type∧r.type≤8:=by rcases hi with h|h|h <;> omega
   have hel:=(ev_all ⟨r.type.toNat,by omega⟩).2.2.2.1
   simp only[joinL,List.length_append,List.length_cons,wCall,List.length_nil] at hel⊢
   omega
  ·rw[if_neg k0]
   split
   ·simp only[joinL,List.length_append,List.length_cons,wStep,List.length_nil];omega
   ·split
    ·simp only[joinL,List.length_append,List.length_cons,wDone,List.length_nil];omega
    ·simp only[joinL,List.length_append,List.length_cons,wResult,List.length_nil];omega
 ·simp
theorem flat_len {α:Type} (l:List α) (f:α→List UInt8) (m:Nat) (h: ∀a∈l,(f a).length≤m):((l.map f).flatten).length≤l.length * m:=by
 induction l with
 |nil=>simp
 |cons a t ih=>
  have h1:=h a (by simp)
  have h2:=ih fun x hx=>h x (by simp[hx])
  simp only[List.map_cons,List.flatten_cons,List.length_append,List.length_cons]
  rw[Nat.succ_mul]
  omega
def traceC (outs:List TOut) (rows:List TRow):List D:=[.sl (outs.map TOut.cs),.sl (rows.map TRow.cs)]
set_option maxHeartbeats 4000000 in
theorem tell_Trace (outs:List TOut) (rows:List TRow) (ho: ∀o∈outs,rngO o) (hr: ∀r∈rows,rngR r) (hol:outs.length≤1000) (hrl:rows.length≤100000):
  Fn Tryz.prog 34 [aggD (traceC outs rows)] (.d (str (traceV outs rows))):=by
 refine Fn_of tt_ok Tryz.func34 rfl (by decide) Tryz.ntmps34 rfl ?_
 have hcl:(outs.map TOut.cs).length=outs.length:=by simp
 have hrcl:(rows.map TRow.cs).length=rows.length:=by simp
 have hfo: ∀l:List TOut,(∀ o∈l,rngO o)→l.length≤1000→((l.map fun o=>lineV (outV o)).flatten).length≤71000000:=fun l h1 h2=>
  Nat.le_trans (flat_len l _ 70001 fun o ho'=>by have:=outV_len (h1 o ho');unfold lineV;simp;omega) (Nat.le_trans (Nat.mul_le_mul_right _ h2) (by decide))
 have hfr: ∀l:List TRow,(∀ r∈l,rngR r)→l.length≤100000→((l.map fun r=>lineV (rowV r)).flatten).length≤21000000:=fun l h1 h2=>
  Nat.le_trans (flat_len l _ 201 fun o ho'=>by have:=rowV_len (h1 o ho');unfold lineV;simp;omega) (Nat.le_trans (Nat.mul_le_mul_right _ h2) (by decide))
 refine Len_in (fun hlen=>?_)
 refine W_loop (fun μ s=> ∃(k:Nat) (l:List UInt8),k≤outs.length∧μ=outs.length-k∧l=((outs.take k).map fun o=>lineV (outV o)).flatten∧
   s=⟨[(1,.ptr 0 0),(3,.ptr 1 0),(9,.d (.sl (outs.map TOut.cs))),(10,.i (outs.map TOut.cs).length),(11,.i k)],33,[some (.row ((traceC outs rows).map .d)),bldB l,bldC l],0,[]⟩) outs.length
  ⟨⟨[(1,.ptr 0 0),(3,.ptr 1 0),(9,.d (.sl (outs.map TOut.cs))),(10,.i (outs.map TOut.cs).length),(11,.i 0)],33,[some (.row ((traceC outs rows).map .d)),some bldZ,none],0,[]⟩,?_,0,[],by omega,by omega,by simp,by rw[bldB_nil.1,bldB_nil.2];rfl⟩ ?_
 ·exact Wk.trans Wk_pad (Wk_env (by repeat (first|exact trivial|refine⟨rfl,?_⟩)))
 rintro μ s1 ⟨k,l,hk,rfl,hl,rfl⟩
 have hll:l.length≤71000000:=by rw[hl];exact hfo _ (fun o h=>ho o (List.mem_of_mem_take h)) (by simp;omega)
 refine W_run tt_ok ?_
 refine Br_dec (fun h=>?_) (fun h=>?_)
 ·have hlt:k<outs.length:=by rw[hcl] at h;omega
  have hi:(outs.map TOut.cs)[(k:Int).toNat]? =some (outs[k]).cs:=by simp[hlt]
  have hro:=ho _ (List.getElem_mem hlt)
  have hO:=tell_Out outs[k] hro
  have hOl:=outV_len hro
  have htk:((outs.take (k+1)).map fun o=>lineV (outV o)).flatten=l++lineV (outV outs[k]):=by rw[List.take_succ_eq_append_getElem hlt,List.map_append,List.flatten_append,hl];simp
  generalize outs[k]=o at *
  have hla:(⟨(outV o).toArray⟩:ByteArray)++(⟨[10].toArray⟩:ByteArray)=⟨(lineV (outV o)).toArray⟩:=str_add _ _
  have hlen2:(lineV (outV o)).length≤70001:=by unfold lineV;simp;omega
  generalize hv:outV o=v at *
  repeat' ((conv=>whnf);(first
   |refine Idx_in _ hi (by omega) rfl ?_
   |refine Fn.use (hO) rfl rfl ?_
   |(refine Need_in (by simp only[str_add,str_size,List.length_append];unfold LB;simp;omega) ?_)))
  rw[hla]
  have hne:=lineV_ne v
  generalize lineV v=s at *
  refine bld_write l s hne (by omega) (by omega) (traceC outs rows) o.cs ?_
  have hln:l++s≠[]:=by simp[hne]
  repeat' ((conv=>whnf);(first
   |refine Back_in ⟨[(1,.ptr 0 0),(3,.ptr 1 0),(9,.d (.sl (outs.map TOut.cs))),(10,.i (outs.map TOut.cs).length),(11,.i (k+1:Nat))],33,[some (.row ((traceC outs rows).map .d)),some (.row [.ptr 1 0,.msl 2 0 (l++s).length (l++s).length 1]),some (.bytes 5 (l++s))],0,[]⟩ _ ⟨k+1,l++s,by omega,rfl,htk.symm,by rw[(bldB_cons hln).1,(bldB_cons hln).2]⟩ (by omega) (Wk_ren [0,1,4] rfl rfl ⟨⟨rfl,rfl⟩,⟨rfl,rfl⟩,⟨rfl,rfl⟩,trivial⟩ (by repeat (first|exact trivial|refine⟨⟨rfl,rfl⟩,?_⟩)) (by decide) (by omega))
   |refine ArK_in (wrap_i64 (by omega) (by omega)) ?_))
 have hkl:outs.length≤k:=by rw[hcl] at h;omega
 rw[List.take_of_length_le hkl] at hl
 conv=>whnf
 refine Len_in (fun hlen2=>?_)
 refine W_loop (fun μ s=> ∃(j:Nat) (l2:List UInt8),j≤rows.length∧μ=rows.length-j∧l2=l++((rows.take j).map fun r=>lineV (rowV r)).flatten∧
   s=⟨[(1,.ptr 0 0),(3,.ptr 1 0),(21,.d (.sl (rows.map TRow.cs))),(22,.i (rows.map TRow.cs).length),(23,.i j)],33,[some (.row ((traceC outs rows).map .d)),bldB l2,bldC l2],0,[]⟩) rows.length
  ⟨_,?_,0,l,by omega,by omega,by simp,rfl⟩ ?_
 ·exact Wk_env (by repeat (first|exact trivial|refine⟨rfl,?_⟩))
 rintro μ s1 ⟨j,l2,hj,rfl,hl2,rfl⟩
 have hll2:l2.length≤100000000:=by
  rw[hl2,List.length_append]
  have:=hfr (rows.take j) (fun r h=>hr r (List.mem_of_mem_take h)) (by simp;omega)
  omega
 refine W_run tt_ok ?_
 refine Br_dec (fun h2=>?_) (fun h2=>?_)
 ·have hlt:j<rows.length:=by rw[hrcl] at h2;omega
  have hi:(rows.map TRow.cs)[(j:Int).toNat]? =some (rows[j]).cs:=by simp[hlt]
  have hro:=hr _ (List.getElem_mem hlt)
  have hO:=tell_Row rows[j] hro
  have hOl:=rowV_len hro
  have htk:l++((rows.take (j+1)).map fun r=>lineV (rowV r)).flatten=l2++lineV (rowV rows[j]):=by rw[List.take_succ_eq_append_getElem hlt,List.map_append,List.flatten_append,hl2];simp
  generalize rows[j]=r at *
  have hla:(⟨(rowV r).toArray⟩:ByteArray)++(⟨[10].toArray⟩:ByteArray)=⟨(lineV (rowV r)).toArray⟩:=str_add _ _
  have hlen2:(lineV (rowV r)).length≤201:=by unfold lineV;simp;omega
  generalize hv:rowV r=v at *
  repeat' ((conv=>whnf);(first
   |refine Idx_in _ hi (by omega) rfl ?_
   |refine Fn.use (hO) rfl rfl ?_
   |(refine Need_in (by simp only[str_add,str_size,List.length_append];unfold LB;simp;omega) ?_)))
  rw[hla]
  have hne:=lineV_ne v
  generalize lineV v=s at *
  refine bld_write l2 s hne (by omega) (by omega) (traceC outs rows) r.cs ?_
  have hln:l2++s≠[]:=by simp[hne]
  repeat' ((conv=>whnf);(first
   |refine Back_in ⟨[(1,.ptr 0 0),(3,.ptr 1 0),(21,.d (.sl (rows.map TRow.cs))),(22,.i (rows.map TRow.cs).length),(23,.i (j+1:Nat))],33,[some (.row ((traceC outs rows).map .d)),some (.row [.ptr 1 0,.msl 2 0 (l2++s).length (l2++s).length 1]),some (.bytes 5 (l2++s))],0,[]⟩ _ ⟨j+1,l2++s,by omega,rfl,htk.symm,by rw[(bldB_cons hln).1,(bldB_cons hln).2]⟩ (by omega) (Wk_ren [0,1,4] rfl rfl ⟨⟨rfl,rfl⟩,⟨rfl,rfl⟩,⟨rfl,rfl⟩,trivial⟩ (by repeat (first|exact trivial|refine⟨⟨rfl,rfl⟩,?_⟩)) (by decide) (by omega))
   |refine ArK_in (wrap_i64 (by omega) (by omega)) ?_))
 ·have hkl2:rows.length≤j:=by rw[hrcl] at h2;omega
  rw[List.take_of_length_le hkl2] at hl2
  have e:traceV outs rows=l2:=by unfold traceV;rw[hl2,hl]
  rw[e]
  conv=>whnf
  refine bld_string l2 (by omega) (traceC outs rows) ?_
  repeat' ((conv=>whnf);(first
   |refine fin0 rfl ?_))
  rfl
end Go.Eng
namespace Go.Eng
open Go Go.Proofs
theorem tree_up (t:Tree) (n:Int):Tri Tryz.prog 278 [.d (treeD t),.i n] [] fun v H=>v=.clos (.func 346) [] [.ptr 0 0,.ptr 1 0]∧H=[some (.row [.d (treeD t)]),some (.row [.i n])]:=by
 refine Tri_of (m:=0) tt_ok Tryz.func278 rfl (by decide) Tryz.ntmps278 (by rfl) rfl ?_
 repeat' ((conv=>whnf);(first
  |refine finR ?_))
 rfl
theorem tree_up1 (t:Tree) (n:Int) (hu:Ups t) (hn:okN t n) (Y:Ysp) (hx:Y.xs=(climb t (t.length+1) n).map AV.i) (hY:YLaw Tryz.prog Y):
  Tri Tryz.prog 346 ([]++[.clos (.yield Y.l) [] []]++[.ptr 0 0,.ptr 1 0]) ([some (.row [.d (treeD t)]),some (.row [.i n])]++[some (.yl Y 0)])
   fun v H1=>H1[2]? =some (some (.yl Y Y.xs.length))∨H1[2]? =some (some (.yz Y)):=by
 refine Tri_of (m:=3) tt_ok Tryz.func346 rfl (by decide) Tryz.ntmps346 (by rfl) rfl ?_
 refine Len_in (fun hlen=>?_)
 simp only[List.length_map] at hlen
 refine ArK_in (wrap_i64 (by simp;omega) (by simp;omega)) ?_
 refine W_loop (fun μ s=> ∃(k:Nat) (c:Int),k≤t.length+1∧μ=t.length+1-k∧okN t c∧(climb t (t.length+1) n).drop k=climb t (t.length+1-k) c∧(climb t (t.length+1) n).length=k+(climb t (t.length+1-k) c).length∧
   s=⟨[(0,.clos (.yield Y.l) [] []),(1,.ptr 0 0),(2,.ptr 1 0),(6,.i ((List.map Node.cs t).length+1)),(7,.i k)],29,[some (.row [.d (treeD t)]),some (.row [.i c]),some (.yl Y k)],3,[]⟩) (t.length+1)
  ⟨_,?_,0,n,by simp,by simp,hn,by simp,by simp,rfl⟩ ?_
 ·exact Wk_env (by repeat (first|exact trivial|refine⟨rfl,?_⟩))
 rintro μ s1 ⟨k,c,hk,rfl,hc,hd,hl,rfl⟩
 have hxl:Y.xs.length=k+(climb t (t.length+1-k) c).length:=by rw[hx];simpa using hl
 refine W_run tt_ok ?_
 refine Br_dec (fun h=>?_) (fun h=>?_)
 ·simp at h
  have e:t.length+1-k=(t.length-k)+1:=by omega
  rw[e] at hd hxl hl
  generalize climb t (t.length+1) n=L at *
  simp only[climb] at hd hxl hl
  refine Br_beq (fun h1=>?_) (fun h1=>?_)
  ·rw[if_pos h1] at hxl
   repeat' ((conv=>whnf);(first
    |refine finQ (.inl ?_)))
   rw[hxl];rfl
  ·rw[if_neg h1] at hxl hd hl
   have hc':isN t c=true:=hc.resolve_left h1
   obtain ⟨hu1,hu2⟩:=hu c hc'
   have hxk:Y.xs[k]? =some (.i c):=by
    rw[hx,List.getElem?_map]
    have:L[k]? =some c:=by
     have:=congrArg (·[0]?) hd
     simpa using this
    rw[this];rfl
   have hd':L.drop (k+1)=climb t (t.length+1-(k+1)) (hi (nd t c)):=by
    have:=congrArg List.tail hd
    rw[List.tail_drop] at this
    rw[this,List.tail_cons]
    congr 1
    omega
   have hl':L.length=(k+1)+(climb t (t.length+1-(k+1)) (hi (nd t c))).length:=by
    rw[hl,List.length_cons]
    have:t.length+1-(k+1)=t.length-k:=by omega
    rw[this];omega
   refine Yield_in 2 Y k (.i c) rfl rfl hY rfl rfl hxk ?_ ?_
   ·repeat' ((conv=>whnf);(first
    |refine W_draw 0 tt_ok mixed (by kernel_rfl) ?_
    |refine Idx_nd hc' rfl ?_
    |refine Back_in _ _ ⟨k+1,_,by omega,rfl,hu1,hd',hl',rfl⟩ (by omega) (Wk_env (by repeat (first|exact trivial|refine⟨rfl,?_⟩)))
    |refine ArK_in (wrap_i64 (by omega) (by omega)) ?_))
   ·repeat' ((conv=>whnf);(first
    |refine finQ (.inr rfl)))
 ·simp at h
  have e:t.length+1-k=0:=by omega
  rw[e] at hxl
  simp only[climb,List.length_nil,Nat.add_zero] at hxl
  repeat' ((conv=>whnf);(first
   |refine finQ (.inl ?_)))
  rw[hxl];rfl
theorem tree_turns (t:Tree) (n:Int) (hu:Ups t) (hn:okN t n):Fn Tryz.prog 265 [.d (treeD t),.i n] (.b (decide ((climb t (t.length+1) n).length>t.length))):=by
 refine Fn_ofB tt_ok Tryz.func265 rfl (by decide) Tryz.ntmps265 rfl (fun hok=>?_)
 have hB:=Ok_len (hok (.d (treeD t)) (by simp))
 simp only[List.length_map] at hB
 have hcl:=climb_len t (t.length+1) n
 refine Tri.call (tree_up t n) [] rfl rfl trivial rfl rfl rfl rfl (r:=.clos (.func 346) [] [.ptr 1 0,.ptr 2 0]) (H':=[some (.row [.i 0]),some (.row [.d (treeD t)]),some (.row [.i n])]) rfl rfl ?_
 conv=>whnf
 refine W_range [1,2] (fs0:=[]) (cs0:=[.ptr 0 0,.ptr 1 0]) (H0:=[some (.row [.d (treeD t)]),some (.row [.i n])]) ((climb t (t.length+1) n).map AV.i) (fun k H=>H=[some (.row [.i k]),none,none,some .dfr]) (fun _ _=>False) rfl rfl rfl
  (by repeat (first|exact trivial|refine⟨⟨rfl,rfl⟩,?_⟩)) rfl rfl rfl rfl (by decide) rfl ?_ ?_ rfl ?_ ?_ ?_
 ·intro k x hx
  rw[List.getElem?_map] at hx
  cases h:(climb t (t.length+1) n)[k]? with
  |none=>rw[h] at hx;simp at hx
  |some c=>rw[h] at hx;simp at hx;subst hx;rfl
 ·intro Y hx hY
  have:=tree_up1 t n hu hn Y hx hY
  rw[hx] at this
  exact this
 ·rintro l k x H' hx rfl hl hY
  have hk:k<t.length+1:=by
   have:=(List.getElem?_eq_some_iff.1 hx).1
   simp at this
   omega
  refine W_run tt_ok ?_
  repeat' ((conv=>whnf);(first
   |refine Rd_next [some (.row [.i (k+1:Nat)]),none,none,some .dfr] (Wk_env (by repeat (first|exact trivial|refine⟨rfl,?_⟩))) rfl (Nat.le_of_ble_eq_true rfl) rfl
   |refine ArK_in (wrap_i64 (by omega) (by omega)) ?_))
 ·rintro H' rfl hl hY
  repeat' ((conv=>whnf);(first
   |refine Len_in (fun hlen=>?_)
   |refine fin0 rfl ?_))
  simp
 ·intro e H' c _ h
  exact h.elim
theorem ups_of (t:Tree) (h: ∀k:Nat,k<t.length→nodeB t k=true):Ups t:=by
 intro n hn
 have h0:=nd_pos hn
 have hlt:n.toNat<t.length:=by unfold isN at hn;have:=of_decide_eq_true hn;omega
 have hk:=h n.toNat hlt
 have e:((n.toNat:Nat):Int)=n:=by omega
 rw[e] at hk
 unfold nodeB parB shadowB at hk
 simp only[Bool.and_eq_true,Bool.or_eq_true,decide_eq_true_eq] at hk
 obtain ⟨⟨⟨⟨⟨h1,h2⟩,h3⟩,h4⟩,h5⟩,h6⟩:=hk
 unfold okN hi upN
 generalize nd t n=x at *
 split at h5
 ·rename_i hs
  simp only[Bool.and_eq_true,decide_eq_true_eq] at h5
  obtain ⟨⟨⟨⟨g1,g2⟩,g3⟩,g4⟩,g5⟩:=h5
  have:=nd_pos g3
  rw[if_pos (by omega),if_pos hs]
  exact⟨.inr g3,rfl⟩
 ·rename_i hs
  rw[if_neg hs]
  have hh:x.host= -1:=by
   split at h5
   ·simp at h5
   ·omega
  rcases h3 with h3|⟨h3,_⟩
  ·rw[hh,h3];simp
  ·have:=nd_pos h3
   rw[if_neg (by omega)]
   exact⟨.inr h3,rfl⟩
theorem tree_may (t:Tree):Fn Tryz.prog 205 [.d (treeD t)] (.b (mayB t)):=by
 refine Fn_of tt_ok Tryz.func205 rfl (by decide) Tryz.ntmps205 rfl ?_
 refine Len_in (fun hlen=>?_)
 simp only[List.length_map] at hlen
 refine Fn.use (tree_in _ _ _) rfl rfl ?_
 refine Br_not ?_
 refine Br_split (fun hin=>?_) (fun hin=>?_)
 rotate_left
 ·repeat' ((conv=>whnf);(first
  |refine fin0 rfl ?_))
  unfold mayB inB at *
  simp only[List.length_map] at hin
  simp_all
  intro h1 h2
  omega
 refine Len_in (fun _=>?_)
 refine W_loop (fun μ s=> ∃(k:Nat),k≤t.length∧μ=t.length-k∧(∀ j:Nat,j<k→nodeB t j=true)∧
   s=⟨[(0,.d (treeD t)),(10,.i (List.map Node.cs t).length),(11,.i k)],28,[],0,[]⟩) t.length
  ⟨_,?_,0,by simp,by simp,by simp,rfl⟩ ?_
 ·exact Wk_env (by repeat (first|exact trivial|refine⟨rfl,?_⟩))
 rintro μ s1 ⟨k,hk,rfl,hno,rfl⟩
 refine W_run tt_ok ?_
 refine Br_dec (fun h=>?_) (fun h=>?_)
 ·simp at h
  refine Fn.use (tree_node t k (isN_nat h)) rfl rfl ?_
  refine Br_not (Br_split (fun hq=>?_) (fun hq=>?_))
  ·repeat' ((conv=>whnf);(first
   |refine Back_in _ _ ⟨k+1,by omega,rfl,?_,rfl⟩ (by omega) (Wk_env (by repeat (first|exact trivial|refine⟨rfl,?_⟩)))
   |refine ArK_in (wrap_i64 (by omega) (by omega)) ?_))
   intro j hj
   rcases Nat.lt_succ_iff_lt_or_eq.1 hj with h1|h1
   ·exact hno j h1
   ·subst h1;exact hq
  ·repeat' ((conv=>whnf);(first
   |refine fin0 rfl ?_))
   simp only[AV.d.injEq,D.bool.injEq]
   unfold mayB
   symm
   rw[Bool.and_eq_false_iff];left
   rw[Bool.and_eq_false_iff];right
   rw[List.all_eq_false]
   exact⟨k,by simpa using h,by simp[hq]⟩
 ·simp at h
  have hk':k=t.length:=by omega
  subst hk'
  have hu:=ups_of t hno
  refine Len_in (fun _=>?_)
  refine W_loop (fun μ s=> ∃(k:Nat),k≤t.length∧μ=t.length-k∧(∀ j:Nat,j<k→endsB t j=true)∧
    s=⟨[(0,.d (treeD t)),(20,.i (List.map Node.cs t).length),(21,.i k)],28,[],0,[]⟩) t.length
   ⟨_,?_,0,by simp,by simp,by simp,rfl⟩ ?_
  ·exact Wk_env (by repeat (first|exact trivial|refine⟨rfl,?_⟩))
  rintro μ s1 ⟨k,hk,rfl,hen,rfl⟩
  refine W_run tt_ok ?_
  refine Br_dec (fun h=>?_) (fun h=>?_)
  ·simp at h
   have hce:=(climb_ends t hu (t.length+1) k (.inr (isN_nat h))).resolve_right (by omega)
   have hce':decide ((climb t (t.length+1) (k:Int)).length>t.length)= !endsB t k:=by
    unfold endsB;simpa using hce
   refine Fn.use (tree_turns t k hu (.inr (isN_nat h))) rfl rfl ?_
   refine Br_split (fun hq=>?_) (fun hq=>?_)
   ·repeat' ((conv=>whnf);(first
    |refine fin0 rfl ?_))
    rw[hce'] at hq
    simp only[AV.d.injEq,D.bool.injEq]
    unfold mayB
    symm
    rw[Bool.and_eq_false_iff];right
    rw[List.all_eq_false]
    exact⟨k,by simpa using h,by simpa using hq⟩
   ·rw[hce'] at hq
    repeat' ((conv=>whnf);(first
     |refine Back_in _ _ ⟨k+1,by omega,rfl,?_,rfl⟩ (by omega) (Wk_env (by repeat (first|exact trivial|refine⟨rfl,?_⟩)))
     |refine ArK_in (wrap_i64 (by omega) (by omega)) ?_))
    intro j hj
    rcases Nat.lt_succ_iff_lt_or_eq.1 hj with h1|h1
    ·exact hen j h1
    ·subst h1;simpa using hq
  ·simp at h
   repeat' ((conv=>whnf);(first
    |refine fin0 rfl ?_))
   unfold mayB inB at *
   simp only[AV.d.injEq,D.bool.injEq]
   simp only[List.length_map,decide_eq_true_eq] at hin
   symm
   simp only[Bool.and_eq_true,List.all_eq_true,List.mem_range,decide_eq_true_eq]
   exact⟨⟨⟨by omega,by omega⟩,hno⟩,fun j hj=>hen j (by omega)⟩
theorem tree_Check (t:Tree):Fn Tryz.prog 220 [.d (treeD t)] (.i (if mayB t then 0 else 1)):=by
 refine Fn_of tt_ok Tryz.func220 rfl (by decide) Tryz.ntmps220 rfl ?_
 repeat' ((conv=>whnf);(first
  |refine Br_not ?_
  |refine Fn.use (tree_may t) rfl rfl ?_
  |refine Br_split (fun h=>?_) (fun h=>?_)
  |refine fin0 rfl ?_))
 all_goals simp[*]
end Go.Eng
namespace Go.Eng
theorem may_node {t:Tree} {n:Int} (h:mayB t=true) (hn:isN t n=true):nodeB t n=true:=by
 unfold mayB at h
 simp only[Bool.and_eq_true,List.all_eq_true,List.mem_range,decide_eq_true_eq] at h
 have h0:=nd_pos hn
 have hl:n.toNat<t.length:=(nd_get hn).1
 have:=h.1.2 n.toNat hl
 rwa [show ((n.toNat:Nat):Int)=n by omega] at this
theorem may_ends {t:Tree} {n:Int} (h:mayB t=true) (hn:isN t n=true):endsF t (t.length+1) n=true:=by
 unfold mayB at h
 simp only[Bool.and_eq_true,List.all_eq_true,List.mem_range,decide_eq_true_eq] at h
 have h0:=nd_pos hn
 have hl:n.toNat<t.length:=(nd_get hn).1
 have:=h.2 n.toNat hl
 rw[show ((n.toNat:Nat):Int)=n by omega] at this
 unfold endsB at this
 exact this
theorem may_len64 {t:Tree} (h:mayB t=true):1≤t.length∧t.length≤64:=by
 unfold mayB at h
 simp only[Bool.and_eq_true,decide_eq_true_eq] at h
 exact h.1.1
structure NodeOk (t:Tree) (n:Int):Prop where
 kind:0≤(nd t n).kind∧(nd t n).kind≤3
 doc:(nd t n).kind=0↔n=0
 par:(nd t n).parent= -1∨(isN t (nd t n).parent=true∧(nd t (nd t n).parent).kids.count n=1)
 sh:(nd t n).kind=3→(nd t n).root= -1∧(nd t n).parent= -1∧isN t (nd t n).host=true∧(nd t (nd t n).host).kind=1∧(nd t (nd t n).host).root=n
 nh:(nd t n).kind≠3→(nd t n).host= -1
 rt:(nd t n).root≠ -1→(nd t n).kind=1∧isN t (nd t n).root=true∧(nd t (nd t n).root).kind=3∧(nd t (nd t n).root).host=n
 kids: ∀k∈(nd t n).kids,isN t k=true∧(nd t k).parent=n∧((nd t k).kind=1∨(nd t k).kind=2)∧(nd t n).kids.count k=1
theorem may_ok {t:Tree} {n:Int} (h:mayB t=true) (hn:isN t n=true):NodeOk t n:=by
 have hb:=may_node h hn
 unfold nodeB kindB parB shadowB at hb
 simp only[Bool.and_eq_true,Bool.or_eq_true,decide_eq_true_eq,List.all_eq_true,beq_iff_eq,decide_eq_decide] at hb
 obtain ⟨⟨⟨⟨⟨⟨⟨k1,k2⟩,k3⟩,h2⟩,h3⟩,h4⟩,h5⟩,h6⟩:=hb
 refine⟨k1,k2,?_,?_,?_,?_,?_⟩
 ·rcases h3 with h3|⟨h3,h7⟩
  ·exact .inl h3
  ·unfold onceB at h7;exact .inr ⟨h3,by simpa using h7⟩
 ·intro hk
  rw[if_pos hk] at h5
  simp only[Bool.and_eq_true,decide_eq_true_eq] at h5
  obtain ⟨⟨⟨⟨g1,g2⟩,g3⟩,g4⟩,g5⟩:=h5
  exact⟨g1,g2,g3,g4,g5⟩
 ·intro hk
  rw[if_neg hk] at h5
  by_cases hh:(nd t n).host= -1
  ·exact hh
  ·rw[if_pos hh] at h5;simp at h5
 ·intro hr
  by_cases hk:(nd t n).kind=3
  ·rw[if_pos hk] at h5
   simp only[Bool.and_eq_true,decide_eq_true_eq] at h5
   exact absurd h5.1.1.1.1 hr
  ·rw[if_neg hk] at h5
   by_cases hh:(nd t n).host= -1
   ·rw[if_neg (by simpa using hh),if_neg hr] at h5
    simp only[Bool.and_eq_true,decide_eq_true_eq] at h5
    exact⟨h5.1.1.1,h5.1.1.2,h5.1.2,h5.2⟩
   ·rw[if_pos hh] at h5;simp at h5
 ·intro k hk
  have:=h6 k hk
  unfold belowB onceB at this
  simp only[Bool.and_eq_true,Bool.or_eq_true,decide_eq_true_eq,beq_iff_eq] at this
  obtain ⟨⟨⟨g1,g2⟩,g3⟩,g4⟩:=this
  exact⟨g1,g3,g4,g2⟩
theorem may_par {t:Tree} {n:Int} (h:mayB t=true) (hn:isN t n=true):okN t (nd t n).parent:=(may_ok h hn).par.imp id And.left
theorem ends_neg {t:Tree} {f:Nat} {n:Int} (h:endsF t f n=true): ∃f',f=f'+1:=by
 cases f with
 |zero=>simp[endsF] at h
 |succ f=>exact⟨f,rfl⟩
theorem ends_up {t:Tree} {f:Nat} {n:Int} (h:endsF t (f+1) n=true) (hn:n≠ -1):endsF t f (upN (nd t n))=true:=by
 simpa [endsF,hn] using h
theorem ends_none (t:Tree) (f:Nat):endsF t (f+1) (-1)=true:=by simp[endsF]
theorem ends_par {t:Tree} {f:Nat} {n:Int} (hm:mayB t=true) (h:endsF t (f+1) n=true) (hn:isN t n=true):endsF t f (nd t n).parent=true:=by
 have h0:=nd_pos hn
 have h1:=ends_up h (by omega)
 obtain ⟨f',rfl⟩:=ends_neg h1
 unfold upN at h1
 by_cases hk:(nd t n).kind=3
 ·rw[((may_ok hm hn).sh hk).2.1];exact ends_none t f'
 ·rw[if_neg hk] at h1;exact h1
def allOk (t:Tree) (n:Int):Bool:=mayB t&&isN t n
def parUp (t:Tree):Nat→Int→List Int
 |0,_=>[]
 |f+1,n=>if n= -1 then [] else n::parUp t f (nd t n).parent
def upR (t:Tree) (n:Int):List Int:=if allOk t n then parUp t (t.length+1) n else []
def topR (t:Tree) (n:Int):Int:=(upR t n).getLast?.getD (-1)
theorem parUp_ne {t:Tree} {f:Nat} {n:Int} (hn:n≠ -1):parUp t (f+1) n≠[]:=by simp[parUp,hn]
theorem topR_isN {t:Tree} {n:Int} (h:allOk t n=true):isN t (topR t n)=true:=by
 unfold topR upR
 rw[if_pos h]
 unfold allOk at h
 simp only[Bool.and_eq_true] at h
 have key: ∀(f:Nat) (n:Int),isN t n=true→endsF t f n=true→isN t ((parUp t f n).getLast?.getD (-1))=true:=by
  intro f
  induction f with
  |zero=>intro n _ h1;simp[endsF] at h1
  |succ f ih=>
   intro n hn he
   have h0:=nd_pos hn
   have hp:=ends_par h.1 he hn
   simp only[parUp,if_neg (show n≠ -1 by omega)]
   rcases may_par h.1 hn with h2|h2
   ·rw[h2]
    obtain ⟨f',rfl⟩:=ends_neg hp
    simpa [parUp] using hn
   ·obtain ⟨f',rfl⟩:=ends_neg hp
    have hne:=parUp_ne (t:=t) (f:=f') (n:=(nd t n).parent) (by have:=nd_pos h2;omega)
    have:=ih _ h2 hp
    rw[List.getLast?_cons,List.getLast?_eq_some_getLast hne] at *
    simpa using this
 exact key _ n h.2 (may_ends h.1 h.2)
theorem topR_none {t:Tree} {n:Int} (h:allOk t n=false):topR t n= -1:=by unfold topR upR;rw[h];rfl
def seqO (g:Int→Option (List Int)):List Int→Option (List Int)
 |[]=>some []
 |k::r=>match g k with
  |none=>none
  |some a=>match seqO g r with
   |none=>none
   |some b=>some (a++b)
def preO (t:Tree):Nat→Int→Option (List Int)
 |0,_=>none
 |f+1,n=>(seqO (preO t f) (nd t n).kids).map (n:: ·)
def hostR (t:Tree) (n:Int):Int:=if allOk t n then (nd t (topR t n)).host else -1
def shUpR (t:Tree) (n:Int):List Int:=if allOk t n then climb t (t.length+1) n else []
def retO (t:Tree) (holds:List Int):Nat→Int→Int
 |0,a=>a
 |f+1,a=>if hostR t a≠ -1∧(holds.any (· ==(nd t (hostR t a)).root))=false then retO t holds f (hostR t a) else a
def retR (t:Tree) (a b:Int):Int:=if allOk t a&&allOk t b then retO t (shUpR t b) (t.length+1) a else -1
def slotB (t:Tree) (n:Int):Bool:=decide ((nd t n).kind=1)&&decide ((nd t n).tag=3)&&decide (hostR t n≠ -1)
def rootR (t:Tree) (n:Int):Int:=if allOk t n=false∨(nd t n).parent= -1 then -1 else (nd t (nd t n).parent).root
end Go.Eng
namespace Go.Eng
open Go Go.Proofs
theorem indexFunc_attr (l:List Attr) (g:FuncId) (fs cs:List AV) (H:Heap) (p:Attr→Bool) (hp: ∀a∈l,Tri Tryz.prog g (fs++[aggD a.cs]++cs) H fun v H'=>v=.b (p a)∧H'=H):
  Tri Tryz.prog 284 [.d (attrsD l),.clos (.func g) fs cs] H fun v H'=>v=.i (ix p l)∧H'=H:=by
 refine Tri_of (m:=H.length) tt_ok Tryz.func284 rfl (by decide) Tryz.ntmps284 (by rfl) rfl ?_
 refine Len_in (fun hlen=>?_)
 simp only[List.length_map] at hlen
 refine W_loop (fun μ s=> ∃(k:Nat),k≤l.length∧μ=l.length-k∧(∀ j (h:j<l.length),j<k→p l[j]=false)∧
   s=⟨[(0,.d (attrsD l)),(1,.clos (.func g) fs cs),(7,.i (List.map Attr.cs l).length),(8,.i k)],19,H,H.length,[]⟩) l.length
  ⟨_,?_,0,by simp,by simp,by simp,rfl⟩ ?_
 ·exact Wk_env (by repeat (first|exact trivial|refine⟨rfl,?_⟩))
 rintro μ s1 ⟨k,hk,rfl,hno,rfl⟩
 refine W_run tt_ok ?_
 refine Br_dec (fun h=>?_) (fun h=>?_)
 ·simp at h
  refine Idx_in (l[k]).cs (by simp[h]) (by omega) rfl ?_
  have hd:=ix_drop p l k hno hk
  rw[List.drop_eq_getElem_cons h] at hd
  refine Tri.use (hp l[k] (List.getElem_mem h)) ?_
  refine Br_split (fun hq=>?_) (fun hq=>?_)
  ·repeat' ((conv=>whnf);(first
   |refine finR ?_))
   simp only[AV.d.injEq,D.int.injEq,true_and,hd,ix]
   simp[hq]
  ·repeat' ((conv=>whnf);(first
   |refine Back_in _ _ ⟨k+1,by omega,rfl,?_,rfl⟩ (by omega) (Wk_env (by repeat (first|exact trivial|refine⟨rfl,?_⟩)))
   |refine ArK_in (wrap_i64 (by omega) (by omega)) ?_))
   intro j hj hjk
   rcases Nat.lt_succ_iff_lt_or_eq.1 hjk with h1|h1
   ·exact hno j hj h1
   ·subst h1;exact hq
 ·simp at h
  have hd:=ix_drop p l k hno hk
  rw[List.drop_eq_nil_of_le h] at hd
  repeat' ((conv=>whnf);(first
   |refine finR ?_))
  simp[hd,ix]
theorem attr_at1 (x:Node) (a:Attr) (name:Int):Tri Tryz.prog 285 ([]++[aggD a.cs]++[.ptr 1 0]) [some (.row (x.cs.map .d)),some (.row [.i name])] fun v H'=>v=.b (a.name==name)∧H'=[some (.row (x.cs.map .d)),some (.row [.i name])]:=by
 refine Tri_of (m:=2) tt_ok Tryz.func285 rfl (by decide) Tryz.ntmps285 (by rfl) rfl ?_
 repeat' ((conv=>whnf);(first
  |refine finT rfl rfl (by repeat (first|exact trivial|refine⟨⟨rfl,rfl⟩,?_⟩)) ?_))
 rfl
def atV (l:List Attr) (name:Int):Int:=ix (fun a=>a.name==name) l
theorem attr_at (x:Node) (name:Int):Fn Tryz.prog 217 [aggD x.cs,.i name] (.i (atV x.attrs name)):=by
 refine Fn_of tt_ok Tryz.func217 rfl (by decide) Tryz.ntmps217 rfl ?_
 refine Tri.use (indexFunc_attr x.attrs _ [] [.ptr 1 0] _ (fun a=>a.name==name) fun a _=>attr_at1 x a name) ?_
 repeat' ((conv=>whnf);(first
  |refine fin0 rfl ?_))
 rfl
theorem attr_node (t:Tree) (n:Int):Fn Tryz.prog 283 [.d (treeD t),.i n] (.b (mayB t&&isN t n)):=by
 refine Fn_of tt_ok Tryz.func283 rfl (by decide) Tryz.ntmps283 rfl ?_
 refine Fn.use (tree_Check t) rfl rfl ?_
 have e:(List.map Node.cs t).length=t.length:=by simp
 have hi:isN t n=decide (0≤n∧n<t.length):=by unfold isN;rfl
 rw[hi]
 cases hm:mayB t
 ·repeat' ((conv=>whnf);(first
  |refine fin0 rfl ?_))
  rfl
 ·repeat' ((conv=>whnf);(first
  |refine Br_dec (fun h=>?_) (fun h=>?_)
  |refine Len_in (fun hlen=>?_)
  |refine fin0 rfl ?_))
  all_goals (simp only[AV.d.injEq,D.bool.injEq,Bool.true_and];grind)
theorem ix_find (l:List Attr) (name:Int):(ix (fun a=>a.name==name) l<0→getV l name=(0,false))∧
  (0≤ix (fun a=>a.name==name) l→ ∃a,l[(ix (fun a=>a.name==name) l).toNat]? =some a∧getV l name=(a.value,true)):=by
 induction l with
 |nil=>simp[ix,getV]
 |cons a r ih=>
  have hl:=ix_lo (fun a:Attr=>a.name==name) r
  unfold getV at *
  simp only[ix,List.find?_cons]
  by_cases h:(a.name==name)=true
  ·simp[h]
  ·have h:(a.name==name)=false:=by simpa using h
   simp only[h]
   generalize ix (fun a:Attr=>a.name==name) r=i at *
   constructor
   ·intro h1
    have:i<0:=by simp at h1;split at h1 <;> omega
    exact ih.1 this
   ·intro h1
    have hi:0≤i:=by simp at h1;split at h1 <;> omega
    obtain ⟨b,h2,h3⟩:=ih.2 hi
    refine⟨b,?_,h3⟩
    have e:(if (false=true) then (0:Int) else if i<0 then -1 else i+1).toNat=i.toNat+1:=by
     simp;rw[if_neg (by omega)];omega
    rw[e,List.getElem?_cons_succ]
    exact h2
def getP (t:Tree) (n name:Int):Int×Bool:=if mayB t&&isN t n then getV (nd t n).attrs name else (0,false)
theorem attr_Get (t:Tree) (n name:Int):Fn Tryz.prog 325 [.d (treeD t),.i n,.i name] (.tup [.i (getP t n name).1,.b (getP t n name).2]):=by
 refine Fn_of tt_ok Tryz.func325 rfl (by decide) Tryz.ntmps325 rfl ?_
 refine Fn.use (attr_node t n) rfl rfl ?_
 refine Br_not (Br_split (fun h=>?_) (fun h=>?_))
 rotate_left
 ·have e:getP t n name=(0,false):=by unfold getP;rw[h];rfl
  rw[e]
  repeat' ((conv=>whnf);(first
   |refine fin0 rfl ?_))
  rfl
 have e:getP t n name=getV (nd t n).attrs name:=by unfold getP;rw[h];rfl
 rw[e]
 have hn:isN t n=true:=by simp at h;exact h.2
 obtain ⟨h1,h2⟩:=ix_find (nd t n).attrs name
 have hat:atV (nd t n).attrs name=ix (fun a=>a.name==name) (nd t n).attrs:=rfl
 by_cases hi:atV (nd t n).attrs name<0
 ·rw[h1 (by rw[← hat];exact hi)]
  repeat' ((conv=>whnf);(first
   |refine Br_true (decide_eq_true (by omega)) ?_
   |refine Idx_nd hn rfl ?_
   |refine Fn.use (attr_at _ _) rfl rfl ?_
   |refine fin0 rfl ?_))
  rfl
 ·obtain ⟨a,h3,h4⟩:=h2 (by rw[← hat];omega)
  rw[h4]
  have hget:(List.map Attr.cs (nd t n).attrs)[(atV (nd t n).attrs name).toNat]? =some a.cs:=by rw[hat,List.getElem?_map,h3];rfl
  repeat' ((conv=>whnf);(first
   |refine Br_false (decide_eq_false (by omega)) ?_
   |refine Idx_nd hn rfl ?_
   |refine Fn.use (attr_at _ _) rfl rfl ?_
   |refine Idx_in _ hget (by omega) rfl ?_
   |refine fin0 rfl ?_))
  rfl
theorem attr_Has (t:Tree) (n name:Int):Fn Tryz.prog 344 [.d (treeD t),.i n,.i name] (.b (getP t n name).2):=by
 refine Fn_of tt_ok Tryz.func344 rfl (by decide) Tryz.ntmps344 rfl ?_
 repeat' ((conv=>whnf);(first
  |refine Fn.use (attr_Get _ _ _) rfl rfl ?_
  |refine fin0 rfl ?_))
 rfl
end Go.Eng
namespace Go.Eng
theorem csl {l:List Attr}: ∀r∈l.map Attr.cs,r.length=2:=by
 intro r hr
 obtain ⟨a,_,rfl⟩:=List.mem_map.1 hr
 rfl
theorem cs7 {t:Tree}: ∀r∈t.map Node.cs,r.length=7:=by
 intro r hr
 obtain ⟨a,_,rfl⟩:=List.mem_map.1 hr
 rfl
theorem cs1 {l:List Int}: ∀r∈l.map intCs,r.length=1:=by
 intro r hr
 obtain ⟨a,_,rfl⟩:=List.mem_map.1 hr
 rfl
end Go.Eng
namespace Go.Eng
open Go Go.Proofs
theorem order_all1 (t:Tree) (n:Int):Tri Tryz.prog 336 ([]++[.i n]++[.ptr 0 0]) [some (.row [.d (treeD t)])] fun v H'=>v=.b (!isN t n)∧H'=[some (.row [.d (treeD t)])]:=by
 refine Tri_of (m:=1) tt_ok Tryz.func336 rfl (by decide) Tryz.ntmps336 (by rfl) rfl ?_
 have e:(List.map Node.cs t).length=t.length:=by simp
 have hi:isN t n=decide (0≤n∧n<t.length):=by unfold isN;rfl
 rw[hi]
 repeat' ((conv=>whnf);(first
  |refine Br_dec (fun h=>?_) (fun h=>?_)
  |refine Len_in (fun hlen=>?_)
  |refine finT rfl rfl (by repeat (first|exact trivial|refine⟨⟨rfl,rfl⟩,?_⟩)) ?_))
 all_goals (simp only[AV.d.injEq,D.bool.injEq] at *;grind)
def allL (t:Tree) (l:List Int):Bool:=mayB t&&l.all (isN t)
theorem order_all (t:Tree) (l:List Int):Fn Tryz.prog 256 [.d (treeD t),.d (ints l)] (.b (allL t l)):=by
 refine Fn_of tt_ok Tryz.func256 rfl (by decide) Tryz.ntmps256 rfl ?_
 have hc:=containsFunc_int l 336 [] [.ptr 0 0] [some (.row [.d (treeD t)])] (fun n=> !isN t n) fun k _=>order_all1 t k
 have e:=not_any_not l (isN t)
 cases hm:mayB t
 ·repeat' ((conv=>whnf);(first
  |refine Br_beq (fun h=>?_) (fun h=>?_)
  |refine Fn.use (tree_Check t) rfl rfl ?_
  |refine fin0 rfl ?_))
  all_goals simp_all [allL]
 ·repeat' ((conv=>whnf);(first
  |refine Br_beq (fun h=>?_) (fun h=>?_)
  |refine Fn.use (tree_Check t) rfl rfl ?_
  |refine Tri.use hc ?_
  |refine fin0 rfl ?_))
  all_goals simp_all [allL]
theorem order_up (t:Tree) (n:Int):Tri Tryz.prog 257 [.d (treeD t),.i n] [] fun v H=>v=.clos (.func 337) [] [.ptr 1 0,.ptr 0 0]∧H=[some (.row [.d (treeD t)]),some (.row [.i n])]:=by
 refine Tri_of (m:=0) tt_ok Tryz.func257 rfl (by decide) Tryz.ntmps257 (by rfl) rfl ?_
 repeat' ((conv=>whnf);(first
  |refine finR ?_))
 rfl
def Seq2 (f:FuncId) (cs0:List AV) (x y:D) (xs:List AV):Prop:= ∀Y:Ysp,Y.xs=xs→YLaw Tryz.prog Y→
 Tri Tryz.prog f ([]++[.clos (.yield Y.l) [] []]++cs0) ([some (.row [.d x]),some (.row [.d y])]++[some (.yl Y 0)]) fun v H1=>H1[2]? =some (some (.yl Y xs.length))∨H1[2]? =some (some (.yz Y))
theorem order_up1 (t:Tree) (n:Int) (hm:mayB t=true) (hn:isN t n=true):Seq2 337 [.ptr 1 0,.ptr 0 0] (treeD t) (.int .i64 n) ((parUp t (t.length+1) n).map AV.i):=by
 intro Y hx hY
 rw[← hx]
 refine Tri_of (m:=3) tt_ok Tryz.func337 rfl (by decide) Tryz.ntmps337 (by rfl) rfl ?_
 refine W_loop (fun μ s=> ∃(k:Nat) (c:Int),okN t c∧endsF t μ c=true∧(parUp t (t.length+1) n).drop k=parUp t μ c∧(parUp t (t.length+1) n).length=k+(parUp t μ c).length∧
   s=⟨[(0,.clos (.yield Y.l) [] []),(1,.ptr 1 0),(2,.ptr 0 0)],16,[some (.row [.d (treeD t)]),some (.row [.i c]),some (.yl Y k)],3,[]⟩) (t.length+1)
  ⟨_,?_,0,n,.inr hn,may_ends hm hn,by simp,by simp,rfl⟩ ?_
 ·exact Wk_env (by repeat (first|exact trivial|refine⟨rfl,?_⟩))
 rintro μ s1 ⟨k,c,hc,he,hd,hl,rfl⟩
 have hxl:Y.xs.length=k+(parUp t μ c).length:=by rw[hx];simpa using hl
 refine W_run tt_ok ?_
 obtain ⟨f,rfl⟩:=ends_neg he
 generalize parUp t (t.length+1) n=L at *
 simp only[parUp] at hd hxl hl
 refine Br_bne (fun h1=>?_) (fun h1=>?_)
 ·rw[if_neg h1] at hxl hd hl
  have hc':isN t c=true:=hc.resolve_left h1
  have hxk:Y.xs[k]? =some (.i c):=by
   rw[hx,List.getElem?_map]
   have:L[k]? =some c:=by
    have:=congrArg (·[0]?) hd
    simpa using this
   rw[this];rfl
  have hd':L.drop (k+1)=parUp t f (nd t c).parent:=by
   have:=congrArg List.tail hd
   rw[List.tail_drop] at this
   rw[this,List.tail_cons]
  have hl':L.length=(k+1)+(parUp t f (nd t c).parent).length:=by
   rw[hl,List.length_cons];omega
  refine Yield_in 2 Y k (.i c) rfl rfl hY rfl rfl hxk ?_ ?_
  ·repeat' ((conv=>whnf);(first
   |refine Idx_nd hc' rfl ?_
   |refine Back_in _ _ ⟨k+1,_,may_par hm hc',ends_par hm he hc',hd',hl',rfl⟩ (by omega) (Wk_env (by repeat (first|exact trivial|refine⟨rfl,?_⟩)))))
  ·repeat' ((conv=>whnf);(first
   |refine finQ (.inr rfl)))
 ·rw[if_pos h1] at hxl
  repeat' ((conv=>whnf);(first
   |refine finQ (.inl ?_)))
  rw[hxl];rfl
end Go.Eng
namespace Go.Eng
open Go Go.Proofs
def cap2 (cs0:List AV):Prop:=cs0=[.ptr 0 0,.ptr 1 0]∨cs0=[.ptr 1 0,.ptr 0 0]
def seqH2 (x y:D) (v:AV):Heap:=[none,none,some (.row [v]),some .dfr]
theorem plain_ints {l:List Int}: ∀(k:Nat) (x:AV),(l.map AV.i)[k]? =some x→plain x=true:=by
 intro k x hx
 rw[List.getElem?_map] at hx
 cases h:l[k]? with
 |none=>rw[h] at hx;simp at hx
 |some c=>rw[h] at hx;simp at hx;subst hx;rfl
theorem appendSeq_int (f:FuncId) (cs0:List AV) (x y:D) (l:List Int) (hcs:cap2 cs0) (hs:Seq2 f cs0 x y (l.map AV.i)) (hl:l.length≤10000):
  Tri Tryz.prog 366 [.nsl,.clos (.func f) [] cs0] [some (.row [.d x]),some (.row [.d y])] fun v H=>v=.d (ints l)∧H=[none,none]:=by
 refine Tri_of (m:=2) tt_ok Tryz.func366 rfl (by decide) Tryz.ntmps366 (by rfl) rfl ?_
 have hcs1:cs0=renL (gOf [0,1]) cs0:=by rcases hcs with rfl|rfl <;> rfl
 have hcs2:lowL 2 cs0=true:=by rcases hcs with rfl|rfl <;> rfl
 conv=>whnf
 refine W_rangeA [0,1] (fs0:=[]) (cs0:=cs0) (H0:=[some (.row [.d x]),some (.row [.d y])]) (l.map AV.i)
  (fun k H=>(k=0∧H=seqH2 x y .nsl)∨(0<k∧H=seqH2 x y (AccV 4 1 ((l.take k).map intCs))++[AccB ((l.take k).map intCs)]))
  (fun _ _=>False) rfl rfl rfl
  (by repeat (first|exact trivial|refine⟨⟨rfl,rfl⟩,?_⟩)) rfl hcs1 rfl hcs2 (by decide) (by decide) AsgOk_in rfl plain_ints ?_ (.inl ⟨rfl,rfl⟩) ?_ ?_ ?_
 ·intro Y hx hY
  exact hs Y hx hY
 ·rintro lp k z H' hx hH hlen hY
  obtain ⟨c,hc,rfl⟩: ∃c,l[k]? =some c∧z=.i c:=by
   rw[List.getElem?_map] at hx
   cases h:l[k]? with
   |none=>rw[h] at hx;simp at hx
   |some c=>rw[h] at hx;simp at hx;exact⟨c,rfl,hx.symm⟩
  have hlt:k<l.length:=(List.getElem?_eq_some_iff.1 hc).1
  have hce:l[k]=c:=(List.getElem?_eq_some_iff.1 hc).2
  have htk:(l.take (k+1)).map intCs=(l.take k).map intCs++[intCs c]:=by rw[List.take_succ_eq_append_getElem hlt,hce];simp
  have hrl:((l.take k).map intCs).length=k:=by simp;omega
  refine W_padH (H2:=seqH2 x y (AccV 4 1 ((l.take k).map intCs))++[AccB ((l.take k).map intCs)]) ?_ ?_
  ·rcases hH with ⟨rfl,rfl⟩|⟨_,rfl⟩
   ·exact .inr (by rw[List.take_zero,List.map_nil,AccV_nil,AccB_nil])
   ·exact .inl rfl
  have hr1: ∀r∈(l.take k).map intCs,r.length=1:=cs1
  generalize hrw:(l.take k).map intCs=rows at *
  refine W_run tt_ok ?_
  have ha:=Acc_app (b:=4) (sz:=1) (rows:=rows) (new:=[intCs c]) (by simp)
  repeat' ((conv=>whnf);(first
   |refine force_in ?_))
  refine Ch_r ?_
  conv=>whnf
  refine App_acc rows [intCs c] rfl rfl rfl rfl (by simp) hr1 (by intro r hr;simp at hr;subst hr;rfl) (by rw[hrl];simp only[List.length_cons,List.length_nil];omega) (Nat.le_of_ble_eq_true rfl) ?_
  skip
  conv=>whnf
  refine Rd_next (seqH2 x y (.msl 4 0 (rows.length+1) (rows.length+1) 1)++[some (.row ((rows++[intCs c]).flatten.map .d))]) (Wk_ren [0,1,2,3,5] rfl rfl (by refine⟨⟨rfl,rfl⟩,⟨rfl,rfl⟩,⟨by rw[renB_row];rfl,lowB_row _ _⟩,trivial⟩) (by repeat (first|exact trivial|refine⟨⟨rfl,rfl⟩,?_⟩)) (by show 4≤5;decide) (by show∀i,i<4→gOf [0,1,2,3,5] i=i;decide)) rfl (by simp[seqH2]) (.inr ⟨by omega,?_⟩)
  rw[htk,ha.1,ha.2]
  rfl
 ·rintro H' hH hlen hY
  rw[List.length_map] at hH
  rw[List.take_length] at hH
  rcases hH with ⟨h0,rfl⟩|⟨h0,rfl⟩
  ·have hnl:l=[]:=List.eq_nil_of_length_eq_zero h0
   subst hnl
   repeat' ((conv=>whnf);(first
    |refine finW (v':=.d (ints [])) (H':=[none,none]) (Fin_fz [0,1] [] rfl rfl rfl trivial .nsl (by decide) (by decide)) ⟨rfl,rfl⟩))
  ·have hne:l.map intCs≠[]:=by intro e;have:=congrArg List.length e;rw[List.length_map] at this;simp at this;subst this;simp at h0
   rw[AccV_cons hne,AccB_cons hne]
   repeat' ((conv=>whnf);(first
    |refine finW (v':=.d (ints l)) (H':=[none,none]) (Fin_fz [0,1] [4] rfl rfl rfl trivial (FV_tab _ rfl rfl rfl cs1) (by decide) (by decide)) ⟨rfl,rfl⟩))
 ·intro e H' c _ h
  exact h.elim
end Go.Eng
namespace Go.Eng
theorem hi_sh {t:Tree} {n:Int} (hm:mayB t=true) (hn:isN t n=true) (hk:(nd t n).kind=3):hi (nd t n)=(nd t n).host∧isN t (nd t n).host=true∧(nd t n).parent= -1:=by
 obtain ⟨_,h2,h3,_⟩:=(may_ok hm hn).sh hk
 have:=nd_pos h3
 refine⟨?_,h3,h2⟩
 unfold hi;rw[if_pos (by omega)]
theorem hi_ns {t:Tree} {n:Int} (hm:mayB t=true) (hn:isN t n=true) (hk:(nd t n).kind≠3):hi (nd t n)=(nd t n).parent∧(nd t n).host= -1:=by
 have h1:=(may_ok hm hn).nh hk
 refine⟨?_,h1⟩
 have:=may_par hm hn
 unfold hi
 rcases this with h|h
 ·rw[h,h1];rfl
 ·have:=nd_pos h;rw[if_neg (by omega)]
theorem parUp_stable {t:Tree} (hm:mayB t=true): ∀(f g:Nat) (n:Int),okN t n→endsF t f n=true→endsF t g n=true→parUp t f n=parUp t g n:=by
 intro f
 induction f with
 |zero=>intro g n _ h;simp[endsF] at h
 |succ f ih=>
  intro g n hn h1 h2
  obtain ⟨g,rfl⟩:=ends_neg h2
  simp only[parUp]
  by_cases hne:n= -1
  ·rw[if_pos hne,if_pos hne]
  ·have hn':=hn.resolve_left hne
   rw[if_neg hne,if_neg hne,ih g _ (may_par hm hn') (ends_par hm h1 hn') (ends_par hm h2 hn')]
theorem parUp_one {t:Tree} {f:Nat} {n:Int} (hn:n≠ -1) (hp:(nd t n).parent= -1) (hf:0<f):parUp t (f+1) n=[n]:=by
 obtain ⟨f,rfl⟩:=Nat.exists_eq_succ_of_ne_zero (by omega:f≠0)
 simp[parUp,hn,hp]
theorem climb_split {t:Tree} (hm:mayB t=true): ∀(f:Nat) (n:Int),isN t n=true→endsF t f n=true→
  ∃f',f'<f∧endsF t f' (nd t ((parUp t f n).getLast?.getD (-1))).host=true∧climb t f n=parUp t f n++climb t f' (nd t ((parUp t f n).getLast?.getD (-1))).host:=by
 intro f
 induction f with
 |zero=>intro n _ h;simp[endsF] at h
 |succ f ih=>
  intro n hn h
  have h0:=nd_pos hn
  have hne:n≠ -1:=by omega
  have hu:=ends_up h hne
  obtain ⟨f0,hf0⟩:=ends_neg hu
  by_cases hk:(nd t n).kind=3
  ·obtain ⟨g1,g2,g3⟩:=hi_sh hm hn hk
   have hp:=parUp_one (t:=t) (f:=f) hne g3 (by omega)
   refine⟨f,by omega,?_,?_⟩
   ·rw[hp];unfold upN at hu;rw[if_pos hk] at hu;simpa using hu
   ·rw[hp];simp only[climb,if_neg hne,g1];simp
  ·obtain ⟨g1,g2⟩:=hi_ns hm hn hk
   unfold upN at hu
   rw[if_neg hk] at hu
   rcases may_par hm hn with h3|h3
   ·have hp:=parUp_one (t:=t) (f:=f) hne h3 (by omega)
    refine⟨f,by omega,?_,?_⟩
    ·rw[hp];simp only[List.getLast?_singleton,Option.getD_some,g2];subst hf0;exact ends_none t f0
    ·rw[hp];simp only[climb,if_neg hne,g1,h3,List.getLast?_singleton,Option.getD_some,g2];simp
   ·obtain ⟨f',k1,k2,k3⟩:=ih _ h3 hu
    subst hf0
    have hpn:=parUp_ne (t:=t) (f:=f0) (n:=(nd t n).parent) (by have:=nd_pos h3;omega)
    have e:(parUp t (f0+1+1) n).getLast?.getD (-1)=(parUp t (f0+1) (nd t n).parent).getLast?.getD (-1):=by
     rw[show parUp t (f0+1+1) n=n::parUp t (f0+1) (nd t n).parent by simp[parUp,hne]]
     rw[List.getLast?_cons,List.getLast?_eq_some_getLast hpn]
     simp
    refine⟨f',by omega,by rw[e];exact k2,?_⟩
    rw[e]
    rw[show parUp t (f0+1+1) n=n::parUp t (f0+1) (nd t n).parent by simp[parUp,hne]]
    rw[show climb t (f0+1+1) n=n::climb t (f0+1) (hi (nd t n)) by simp[climb,hne],g1,k3]
    rfl
theorem climb_turn {t:Tree} {n:Int} {f:Nat} (ha:allOk t n=true) (h:endsF t f n=true):
  ∃f',f'<f∧endsF t f' (hostR t n)=true∧climb t f n=upR t n++climb t f' (hostR t n):=by
 have ha':=ha
 unfold allOk at ha'
 simp only[Bool.and_eq_true] at ha'
 obtain ⟨hm,hn⟩:=ha'
 obtain ⟨f',h1,h2,h3⟩:=climb_split hm f n hn h
 have e:parUp t f n=upR t n:=by unfold upR;rw[if_pos ha];exact parUp_stable hm _ _ _ (.inr hn) h (may_ends hm hn)
 rw[e] at h2 h3
 have e2:(nd t ((upR t n).getLast?.getD (-1))).host=hostR t n:=by unfold hostR topR;rw[if_pos ha]
 rw[e2] at h2 h3
 exact⟨f',h1,h2,h3⟩
theorem hostR_ok {t:Tree} {n:Int} (ha:allOk t n=true):hostR t n= -1∨allOk t (hostR t n)=true:=by
 have ha':=ha
 unfold allOk at ha'
 simp only[Bool.and_eq_true] at ha'
 have hT:=topR_isN ha
 unfold hostR
 rw[if_pos ha]
 by_cases hk:(nd t (topR t n)).kind=3
 ·obtain ⟨_,_,h3,_⟩:=(may_ok ha'.1 hT).sh hk
  right;unfold allOk;rw[ha'.1,h3];rfl
 ·left;exact(may_ok ha'.1 hT).nh hk
theorem climb_none (t:Tree) (f:Nat):climb t f (-1)=[]:=by cases f <;> simp[climb]
theorem upR_ne {t:Tree} {n:Int} (ha:allOk t n=true):upR t n≠[]:=by
 unfold upR
 rw[if_pos ha]
 unfold allOk at ha
 simp only[Bool.and_eq_true] at ha
 have:=nd_pos ha.2
 exact parUp_ne (by omega)
theorem parUp_len (t:Tree): ∀(f:Nat) (n:Int),(parUp t f n).length≤f:=by
 intro f
 induction f with
 |zero=>intro n;simp[parUp]
 |succ f ih=>intro n;simp only[parUp];split <;> simp;have:=ih (nd t n).parent;omega
theorem upR_len (t:Tree) (n:Int):(upR t n).length≤65:=by
 unfold upR
 split
 ·rename_i h
  unfold allOk at h
  simp only[Bool.and_eq_true] at h
  have:=parUp_len t (t.length+1) n
  have:=may_len64 h.1
  omega
 ·simp
end Go.Eng
namespace Go.Eng
open Go Go.Proofs
theorem collect_int (f:FuncId) (cs0:List AV) (x y:D) (l:List Int) (hcs:cap2 cs0) (hs:Seq2 f cs0 x y (l.map AV.i)) (hl:l.length≤10000):
  Tri Tryz.prog 305 [.clos (.func f) [] cs0] [some (.row [.d x]),some (.row [.d y])] fun v H=>v=.d (ints l)∧H=[none,none]:=by
 refine Tri_of (m:=2) tt_ok Tryz.func305 rfl (by decide) Tryz.ntmps305 (by rfl) rfl ?_
 have h:=appendSeq_int f cs0 x y l hcs hs hl
 rcases hcs with rfl|rfl
 ·repeat' ((conv=>whnf);(first
  |refine Tri.use h ?_
  |refine finQ ⟨rfl,rfl⟩))
 ·repeat' ((conv=>whnf);(first
  |refine Tri.use h ?_
  |refine finQ ⟨rfl,rfl⟩))
theorem order_Up (t:Tree) (n:Int):Fn Tryz.prog 334 [.d (treeD t),.i n] (.d (ints (upR t n))):=by
 refine Fn_of tt_ok Tryz.func334 rfl (by decide) Tryz.ntmps334 rfl ?_
 have hall:allL t [n]=allOk t n:=by simp[allL,allOk]
 have h1:=order_all t [n]
 rw[hall] at h1
 cases ha:allOk t n
 ·rw[ha] at h1
  have e:upR t n=[]:=by unfold upR;rw[ha];rfl
  rw[e]
  repeat' ((conv=>whnf);(first
   |refine Ch_r ?_
   |refine Fn.use (h1) rfl rfl ?_
   |refine finD (F:=[]) .nsl))
 ·rw[ha] at h1
  have ha':=ha
  unfold allOk at ha'
  simp only[Bool.and_eq_true] at ha'
  have e:upR t n=parUp t (t.length+1) n:=by unfold upR;rw[if_pos ha]
  have hlen:=upR_len t n
  rw[e] at hlen⊢
  have hc:=collect_int 337 [.ptr 1 0,.ptr 0 0] (treeD t) (.int .i64 n) _ (.inr rfl) (order_up1 t n ha'.1 ha'.2) (by omega)
  repeat' ((conv=>whnf);(first
   |refine Ch_r ?_
   |refine Fn.use (h1) rfl rfl ?_
   |refine Tri.call (order_up t n) [] rfl rfl trivial rfl rfl rfl rfl (r:=.clos (.func 337) [] [.ptr 1 0,.ptr 0 0]) (H':=[some (.row [.d (treeD t)]),some (.row [.i n])]) rfl rfl ?_
   |refine Tri.use hc ?_
   |refine fin0 rfl ?_))
  rfl
end Go.Eng
namespace Go.Eng
open Go Go.Proofs
def topH (c:Int):Heap:=[some (.row [.i c]),none,none,some .dfr]
theorem order_Top (t:Tree) (n:Int):Fn Tryz.prog 188 [.d (treeD t),.i n] (.i (topR t n)):=by
 refine Fn_of tt_ok Tryz.func188 rfl (by decide) Tryz.ntmps188 rfl ?_
 have hall:allL t [n]=allOk t n:=by simp[allL,allOk]
 have h1:=order_all t [n]
 rw[hall] at h1
 cases ha:allOk t n
 ·rw[ha] at h1
  rw[topR_none ha]
  repeat' ((conv=>whnf);(first
   |refine Ch_r ?_
   |refine Fn.use (h1) rfl rfl ?_
   |refine fin0 rfl ?_))
  rfl
 ·rw[ha] at h1
  have ha':=ha
  unfold allOk at ha'
  simp only[Bool.and_eq_true] at ha'
  have e:upR t n=parUp t (t.length+1) n:=by unfold upR;rw[if_pos ha]
  have hne:=upR_ne ha
  have hs:=order_up1 t n ha'.1 ha'.2
  rw[← e] at hs
  repeat' ((conv=>whnf);(first
   |refine Ch_r ?_
   |refine Fn.use (h1) rfl rfl ?_
   |refine Tri.call (order_up t n) [] rfl rfl trivial rfl rfl rfl rfl (r:=.clos (.func 337) [] [.ptr 2 0,.ptr 1 0]) (H':=[some (.row [.i (-1)]),some (.row [.d (treeD t)]),some (.row [.i n])]) rfl rfl ?_))
  refine W_rangeS [1,2] (fs0:=[]) (cs0:=[.ptr 1 0,.ptr 0 0]) (H0:=[some (.row [.d (treeD t)]),some (.row [.i n])]) ((upR t n).map AV.i)
   (fun k H=>H=topH (((upR t n).take k).getLast?.getD (-1))) (fun _ _=>False) rfl rfl rfl
   (by repeat (first|exact trivial|refine⟨⟨rfl,rfl⟩,?_⟩)) rfl rfl rfl rfl (by decide) rfl plain_ints ?_ rfl ?_ ?_ ?_
  ·intro Y hx hY
   exact hs Y hx hY
  ·rintro l k x H' hx rfl hl hY
   obtain ⟨c,hc,rfl⟩: ∃c,(upR t n)[k]? =some c∧x=.i c:=by
    rw[List.getElem?_map] at hx
    cases h:(upR t n)[k]? with
    |none=>rw[h] at hx;simp at hx
    |some c=>rw[h] at hx;simp at hx;exact⟨c,rfl,hx.symm⟩
   have hlt:k<(upR t n).length:=(List.getElem?_eq_some_iff.1 hc).1
   have hce:(upR t n)[k]=c:=(List.getElem?_eq_some_iff.1 hc).2
   have htk:((upR t n).take (k+1)).getLast?.getD (-1)=c:=by rw[List.take_succ_eq_append_getElem hlt,hce];simp
   refine W_run tt_ok ?_
   repeat' ((conv=>whnf);(first
    |refine Need_in rfl ?_))
   refine W_run tt_ok ?_
   repeat' ((conv=>whnf);(first
    |refine Rd_next (topH c) (Wk_env (by repeat (first|exact trivial|refine⟨rfl,?_⟩))) rfl (by simp[topH]) (by rw[htk])))
  ·rintro H' rfl hl hY
   rw[List.length_map,List.take_length]
   repeat' ((conv=>whnf);(first
    |refine fin0 rfl ?_))
   rfl
  ·intro e H' c _ h
   exact h.elim
end Go.Eng
namespace Go.Eng
theorem ends_hi {t:Tree} {f:Nat} {n:Int} (hm:mayB t=true) (hn:isN t n=true) (h:endsF t (f+1) n=true):endsF t f (hi (nd t n))=true∧okN t (hi (nd t n)):=by
 have h0:=nd_pos hn
 have h1:=ends_up h (by omega)
 unfold upN at h1
 by_cases hk:(nd t n).kind=3
 ·obtain ⟨g1,g2,_⟩:=hi_sh hm hn hk
  rw[if_pos hk] at h1
  rw[g1];exact⟨h1,.inr g2⟩
 ·obtain ⟨g1,_⟩:=hi_ns hm hn hk
  rw[if_neg hk] at h1
  rw[g1];exact⟨h1,may_par hm hn⟩
theorem climb_stable {t:Tree} (hm:mayB t=true): ∀(f g:Nat) (n:Int),okN t n→endsF t f n=true→endsF t g n=true→climb t f n=climb t g n:=by
 intro f
 induction f with
 |zero=>intro g n _ h;simp[endsF] at h
 |succ f ih=>
  intro g n hn h1 h2
  obtain ⟨g,rfl⟩:=ends_neg h2
  simp only[climb]
  by_cases hne:n= -1
  ·rw[if_pos hne,if_pos hne]
  ·have hn':=hn.resolve_left hne
   obtain ⟨a1,a2⟩:=ends_hi hm hn' h1
   rw[if_neg hne,if_neg hne,ih g _ a2 a1 (ends_hi hm hn' h2).1]
theorem climb_short {t:Tree} (hm:mayB t=true): ∀(f:Nat) (n:Int),okN t n→endsF t f n=true→(climb t f n).length+1≤f:=by
 intro f
 induction f with
 |zero=>intro n _ h;simp[endsF] at h
 |succ f ih=>
  intro n hn h
  simp only[climb]
  by_cases hne:n= -1
  ·rw[if_pos hne];simp
  ·have hn':=hn.resolve_left hne
   obtain ⟨a1,a2⟩:=ends_hi hm hn' h
   rw[if_neg hne]
   have:=ih _ a2 a1
   simp;omega
def dep (t:Tree) (n:Int):Nat:=(climb t (t.length+1) n).length
theorem dep_le {t:Tree} {n:Int} (hm:mayB t=true) (hn:isN t n=true):dep t n≤t.length:=by
 have:=climb_short hm _ n (.inr hn) (may_ends hm hn)
 unfold dep;omega
theorem dep_kid {t:Tree} {n k:Int} (hm:mayB t=true) (hn:isN t n=true) (hk:k∈(nd t n).kids):dep t k=dep t n+1:=by
 obtain ⟨h1,h2,h3,_⟩:=(may_ok hm hn).kids k hk
 have hns:(nd t k).kind≠3:=by omega
 obtain ⟨g1,_⟩:=hi_ns hm h1 hns
 have h0:=nd_pos h1
 obtain ⟨a1,a2⟩:=ends_hi hm h1 (may_ends hm h1)
 rw[g1,h2] at a1
 unfold dep
 rw[show climb t (t.length+1) k=k::climb t t.length (hi (nd t k)) by simp[climb,show k≠ -1 by omega],g1,h2,climb_stable hm _ _ n (.inr hn) a1 (may_ends hm hn)]
 rfl
theorem seqO_some {g:Int→Option (List Int)}: ∀{l:List Int},(∀ k∈l,∃a,g k=some a)→ ∃a,seqO g l=some a:=by
 intro l
 induction l with
 |nil=>intro _;exact⟨[],rfl⟩
 |cons k r ih=>
  intro h
  obtain ⟨a,ha⟩:=h k (by simp)
  obtain ⟨b,hb⟩:=ih fun x hx=>h x (by simp[hx])
  exact⟨a++b,by simp[seqO,ha,hb]⟩
theorem preO_some {t:Tree} (hm:mayB t=true): ∀(f:Nat) (n:Int),isN t n=true→t.length+1≤dep t n+f→ ∃l,preO t f n=some l:=by
 intro f
 induction f with
 |zero=>intro n hn h;have:=dep_le hm hn;omega
 |succ f ih=>
  intro n hn h
  obtain ⟨l,hl⟩:=seqO_some (g:=preO t f) (l:=(nd t n).kids) fun k hk=>ih k ((may_ok hm hn).kids k hk).1 (by rw[dep_kid hm hn hk];omega)
  exact⟨n::l,by simp[preO,hl]⟩
def preR (t:Tree) (n:Int):List Int:=(preO t (t.length+1) n).getD []
theorem preR_eq {t:Tree} {n:Int} (hm:mayB t=true) (hn:isN t n=true):preO t (t.length+1) n=some (preR t n):=by
 obtain ⟨l,hl⟩:=preO_some hm (t.length+1) n hn (by omega)
 unfold preR;rw[hl];rfl
def listR (t:Tree) (n:Int):List Int:=if allOk t n then preR t n else []
theorem seqO_isN {t:Tree} {g:Int→Option (List Int)}: ∀{l:List Int} {a:List Int},seqO g l=some a→(∀ k∈l,∀b,g k=some b→ ∀x∈b,isN t x=true)→ ∀x∈a,isN t x=true:=by
 intro l
 induction l with
 |nil=>intro a h _ x hx;simp[seqO] at h;subst h;simp at hx
 |cons k r ih=>
  intro a h hg x hx
  simp only[seqO] at h
  cases hk:g k with
  |none=>rw[hk] at h;simp at h
  |some b=>
   rw[hk] at h
   cases hr:seqO g r with
   |none=>rw[hr] at h;simp at h
   |some c=>
    rw[hr] at h
    simp at h
    subst h
    rcases List.mem_append.1 hx with hx|hx
    ·exact hg k (by simp) b hk x hx
    ·exact ih hr (fun y hy=>hg y (by simp[hy])) x hx
theorem preO_isN {t:Tree} (hm:mayB t=true): ∀(f:Nat) (n:Int) (l:List Int),isN t n=true→preO t f n=some l→ ∀x∈l,isN t x=true:=by
 intro f
 induction f with
 |zero=>intro n l _ h;simp[preO] at h
 |succ f ih=>
  intro n l hn h x hx
  simp only[preO] at h
  cases hs:seqO (preO t f) (nd t n).kids with
  |none=>rw[hs] at h;simp at h
  |some a=>
   rw[hs] at h
   simp at h
   subst h
   rcases List.mem_cons.1 hx with rfl|hx
   ·exact hn
   ·exact seqO_isN hs (fun k hk b hb=>ih k b ((may_ok hm hn).kids k hk).1 hb) x hx
theorem preR_isN {t:Tree} {n:Int} (hm:mayB t=true) (hn:isN t n=true): ∀x∈preR t n,isN t x=true:=preO_isN hm _ n _ hn (preR_eq hm hn)
theorem listR_isN {t:Tree} {n:Int}: ∀x∈listR t n,isN t x=true:=by
 intro x hx
 unfold listR at hx
 split at hx
 ·rename_i h
  unfold allOk at h
  simp only[Bool.and_eq_true] at h
  exact preR_isN h.1 h.2 x hx
 ·simp at hx
theorem noYx_set {b:Blk}: ∀(H:Heap) (i j a:Nat),a=j+i→noYx [a] H j=true→noYx [a] (H.set i (some b)) j=true:=by
 intro H
 induction H with
 |nil=>intro i j a _ h;exact h
 |cons x t ih=>
  intro i j a ha h
  cases i with
  |zero=>
   have ht:noYx [a] t (j+1)=true:=by
    cases x with
    |none=>exact h
    |some k=>simp only[noYx,Bool.and_eq_true] at h;exact h.2
   simp only[List.set_cons_zero,noYx,Bool.and_eq_true]
   refine⟨?_,ht⟩
   rw[ha];simp
  |succ i=>
   cases x with
   |none=>simp only[List.set_cons_succ,noYx] at h ⊢;exact ih i (j+1) a (by omega) h
   |some k=>
    simp only[List.set_cons_succ,noYx,Bool.and_eq_true] at h⊢
    exact⟨h.1,ih i (j+1) a (by omega) h.2⟩
end Go.Eng
namespace Go.Eng
theorem nodup_len: ∀(N:Nat) (l:List Nat),l.Nodup→(∀ x∈l,x<N)→l.length≤N:=by
 intro N
 induction N with
 |zero=>
  intro l _ h
  cases l with
  |nil=>simp
  |cons a r=>have:=h a (by simp);omega
 |succ N ih=>
  intro l hn h
  have h1:=ih (l.filter fun x=>x != N) (hn.sublist List.filter_sublist) (fun x hx=>by
   have:=List.mem_filter.1 hx
   have h2:=h x this.1
   have h3:x≠N:=by simpa using this.2
   omega)
  have h2:l.count N≤1:=List.nodup_iff_count.1 hn N
  have h3:=List.length_eq_countP_add_countP (fun x=>x==N) (l:=l)
  have h4:(l.filter fun x=>x != N).length=List.countP (fun a=>decide ¬(a==N)=true) l:=by
   rw[List.countP_eq_length_filter]
   congr 1
   apply List.filter_congr
   intro x _
   by_cases hx:x=N <;> simp[hx]
  have h5:List.countP (fun x=>x==N) l=l.count N:=rfl
  omega
theorem nodup_isN {t:Tree} {l:List Int} (h:l.Nodup) (hn: ∀x∈l,isN t x=true):l.length≤t.length:=by
 have h1:=nodup_len t.length (l.map Int.toNat) (by
  refine List.pairwise_map.2 (h.imp_of_mem fun {a b} ha hb hab=>?_)
  have:=nd_pos (hn a ha);have:=nd_pos (hn b hb)
  omega) (fun x hx=>by
  obtain ⟨y,hy,rfl⟩:=List.mem_map.1 hx
  exact(nd_get (hn y hy)).1)
 simpa using h1
theorem climb_head {t:Tree} {f:Nat} {n:Int} (hn:n≠ -1):climb t (f+1) n=n::climb t f (hi (nd t n)):=by simp[climb,hn]
theorem climb_mem {t:Tree} (hm:mayB t=true): ∀(f:Nat) (n x:Int),isN t n=true→endsF t f n=true→x∈climb t f n→isN t x=true∧dep t x≤dep t n∧(dep t x=dep t n→x=n):=by
 intro f
 induction f with
 |zero=>intro n x _ h;simp[endsF] at h
 |succ f ih=>
  intro n x hn he hx
  have h0:=nd_pos hn
  rw[climb_head (by omega)] at hx
  obtain ⟨a1,a2⟩:=ends_hi hm hn he
  have hdn:dep t n=(climb t f (hi (nd t n))).length+1:=by
   unfold dep;rw[climb_stable hm _ (f+1) n (.inr hn) (may_ends hm hn) he,climb_head (by omega)];rfl
  rcases List.mem_cons.1 hx with rfl|hx
  ·exact⟨hn,Nat.le_refl _,fun _=>rfl⟩
  ·rcases a2 with a2|a2
   ·rw[a2,climb_none] at hx;simp at hx
   ·obtain ⟨b1,b2,b3⟩:=ih _ x a2 a1 hx
    have hdh:dep t (hi (nd t n))=(climb t f (hi (nd t n))).length:=by
     unfold dep;rw[climb_stable hm _ f _ (.inr a2) (may_ends hm a2) a1]
    exact⟨b1,by omega,fun h=>by omega⟩
theorem climb_same {t:Tree} (hm:mayB t=true): ∀(f:Nat) (n x y:Int),isN t n=true→endsF t f n=true→x∈climb t f n→y∈climb t f n→dep t x=dep t y→x=y:=by
 intro f
 induction f with
 |zero=>intro n x y _ h;simp[endsF] at h
 |succ f ih=>
  intro n x y hn he hx hy hd
  have h0:=nd_pos hn
  have mx:=climb_mem hm _ n x hn he hx
  have my:=climb_mem hm _ n y hn he hy
  obtain ⟨a1,a2⟩:=ends_hi hm hn he
  rw[climb_head (by omega)] at hx hy
  rcases List.mem_cons.1 hx with rfl|hx
  ·exact(my.2.2 hd.symm).symm
  ·rcases List.mem_cons.1 hy with rfl|hy
   ·exact mx.2.2 hd
   ·rcases a2 with a2|a2
    ·rw[a2,climb_none] at hx;simp at hx
    ·exact ih _ x y a2 a1 hx hy hd
theorem seqO_mem {g:Int→Option (List Int)}: ∀{l a:List Int},seqO g l=some a→ ∀x∈a,∃k∈l,∃b,g k=some b∧x∈b:=by
 intro l
 induction l with
 |nil=>intro a h x hx;simp[seqO] at h;subst h;simp at hx
 |cons k r ih=>
  intro a h x hx
  simp only[seqO] at h
  cases hk:g k with
  |none=>rw[hk] at h;simp at h
  |some b=>
   rw[hk] at h
   cases hr:seqO g r with
   |none=>rw[hr] at h;simp at h
   |some c=>
    rw[hr] at h
    simp at h
    subst h
    rcases List.mem_append.1 hx with hx|hx
    ·exact⟨k,by simp,b,hk,hx⟩
    ·obtain ⟨k',h1,h2⟩:=ih hr x hx
     exact⟨k',by simp[h1],h2⟩
theorem preO_up {t:Tree} (hm:mayB t=true): ∀(f:Nat) (n:Int) (l:List Int),isN t n=true→preO t f n=some l→ ∀x∈l,isN t x=true∧n∈climb t (t.length+1) x:=by
 intro f
 induction f with
 |zero=>intro n l _ h;simp[preO] at h
 |succ f ih=>
  intro n l hn h x hx
  simp only[preO] at h
  cases hs:seqO (preO t f) (nd t n).kids with
  |none=>rw[hs] at h;simp at h
  |some a=>
   rw[hs] at h
   simp at h
   subst h
   have h0:=nd_pos hn
   rcases List.mem_cons.1 hx with rfl|hx
   ·exact⟨hn,by rw[climb_head (by omega)];simp⟩
   ·obtain ⟨k,hk,b,hb,hxb⟩:=seqO_mem hs x hx
    obtain ⟨k1,k2,k3,_⟩:=(may_ok hm hn).kids k hk
    obtain ⟨g1,g2⟩:=ih k b k1 hb x hxb
    refine⟨g1,?_⟩
    have key: ∀(f:Nat) (x:Int),isN t x=true→endsF t f x=true→k∈climb t f x→n∈climb t f x:=by
     intro f
     induction f with
     |zero=>intro x _ h;simp[endsF] at h
     |succ f ih2=>
      intro x hx he hkx
      have hx0:=nd_pos hx
      obtain ⟨a1,a2⟩:=ends_hi hm hx he
      rw[climb_head (by omega)] at hkx⊢
      rcases List.mem_cons.1 hkx with rfl|hkx
      ·obtain ⟨c1,_⟩:=hi_ns hm k1 (by omega:(nd t k).kind≠3)
       rw[c1,k2] at a1⊢
       obtain ⟨f',rfl⟩:=ends_neg a1
       rw[climb_head (by omega)]
       simp
      ·rcases a2 with a2|a2
       ·rw[a2,climb_none] at hkx;simp at hkx
       ·exact List.mem_cons_of_mem _ (ih2 _ a2 a1 hkx)
    exact key _ x g1 (may_ends hm g1) g2
theorem preO_nodup {t:Tree} (hm:mayB t=true): ∀(f:Nat) (n:Int) (l:List Int),isN t n=true→preO t f n=some l→l.Nodup:=by
 intro f
 induction f with
 |zero=>intro n l _ h;simp[preO] at h
 |succ f ih=>
  intro n l hn h
  simp only[preO] at h
  cases hs:seqO (preO t f) (nd t n).kids with
  |none=>rw[hs] at h;simp at h
  |some a=>
   rw[hs] at h
   simp at h
   subst h
   have hdk: ∀k∈(nd t n).kids,dep t k=dep t n+1:=fun k hk=>dep_kid hm hn hk
   have hkn:(nd t n).kids.Nodup:=List.nodup_iff_count.2 fun k=>by
    by_cases hk:k∈(nd t n).kids
    ·exact Nat.le_of_eq ((may_ok hm hn).kids k hk).2.2.2
    ·rw[List.count_eq_zero.2 hk];omega
   have hkN: ∀k∈(nd t n).kids,isN t k=true:=fun k hk=>((may_ok hm hn).kids k hk).1
   generalize (nd t n).kids=ks at *
   have main: ∀(ks a:List Int),seqO (preO t f) ks=some a→ks.Nodup→(∀ k∈ks,dep t k=dep t n+1)→(∀ k∈ks,isN t k=true)→a.Nodup:=by
    intro ks
    induction ks with
    |nil=>intro a h _ _ _;simp[seqO] at h;subst h;exact List.nodup_nil
    |cons k r ihr=>
     intro a h hnd hd hN
     simp only[seqO] at h
     cases hk:preO t f k with
     |none=>rw[hk] at h;simp at h
     |some b=>
      rw[hk] at h
      cases hr:seqO (preO t f) r with
      |none=>rw[hr] at h;simp at h
      |some c=>
       rw[hr] at h
       simp at h
       subst h
       obtain ⟨n1,n2⟩:=List.nodup_cons.1 hnd
       refine List.nodup_append.2 ⟨ih k b (hN k (by simp)) hk,ihr c hr n2 (fun x hx=>hd x (by simp[hx])) (fun x hx=>hN x (by simp[hx])),fun x hx y hy hxy=>?_⟩
       subst hxy
       obtain ⟨k',q1,b',q2,q3⟩:=seqO_mem hr x hy
       obtain ⟨u1,u2⟩:=preO_up hm f k b (hN k (by simp)) hk x hx
       obtain ⟨_,u3⟩:=preO_up hm f k' b' (hN k' (by simp[q1])) q2 x q3
       have:=climb_same hm _ x k k' u1 (may_ends hm u1) u2 u3 (by rw[hd k (by simp),hd k' (by simp[q1])])
       subst this
       exact n1 q1
   refine List.nodup_cons.2 ⟨fun hmem=>?_,main ks a hs hkn hdk hkN⟩
   obtain ⟨k,q1,b,q2,q3⟩:=seqO_mem hs n hmem
   obtain ⟨u1,u2⟩:=preO_up hm f k b (hkN k q1) q2 n q3
   have:=(climb_mem hm _ n k hn (may_ends hm hn) u2).2.1
   have:=hdk k q1
   omega
theorem listR_nodup (t:Tree) (n:Int):(listR t n).Nodup:=by
 unfold listR
 split
 ·rename_i h
  unfold allOk at h
  simp only[Bool.and_eq_true] at h
  exact preO_nodup h.1 _ n _ h.2 (preR_eq h.1 h.2)
 ·exact List.nodup_nil
theorem listR_len (t:Tree) (n:Int):(listR t n).length≤t.length:=nodup_isN (listR_nodup t n) listR_isN
end Go.Eng
namespace Go.Eng
open Go Go.Proofs
def YQ (H:Heap) (i:Nat) (Y:Ysp) (k m:Nat) (v:AV) (H':Heap):Prop:=(v=.b true∧H'=H.set i (some (.yl Y (k+m))))∨(v=.b false∧H'=H.set i (some (.yz Y)))
theorem set_at {H:Heap} {i:Nat} {x y:Blk} (h:H[i]? =some (some x)):(H.set i (some y))[i]? =some (some y):=by
 rw[List.getElem?_set_self (List.getElem?_eq_some_iff.1 h).1]
theorem set_two {H:Heap} {i:Nat} {x y:Option Blk}:(H.set i x).set i y=H.set i y:=List.set_set ..
theorem noYx_set0 {H:Heap} {i:Nat} {b:Blk} (h:noYx [i] H 0=true):noYx [i] (H.set i (some b)) 0=true:=noYx_set H i 0 i (by omega) h
set_option maxHeartbeats 2000000 in
theorem order_down (t:Tree) (hm:mayB t=true): ∀(f:Nat) (n:Int) (l:List Int),isN t n=true→preO t f n=some l→ ∀(H:Heap) (i:Nat) (Y:Ysp) (k:Nat) (rest:List AV),H[i]? =some (some (.yl Y k))→noYx [i] H 0=true→YLaw Tryz.prog Y→Y.xs.drop k=l.map AV.i++rest→
  Tri Tryz.prog 444 [.d (treeD t),.i n,.clos (.yield Y.l) [] []] H (YQ H i Y k l.length):=by
 intro f
 induction f with
 |zero=>intro n l _ h;simp[preO] at h
 |succ f ih=>
  intro n l hn h H i Y k rest hH hno hY hx
  simp only[preO] at h
  cases hs:seqO (preO t f) (nd t n).kids with
  |none=>rw[hs] at h;simp at h
  |some a=>
  rw[hs] at h
  simp at h
  subst h
  have hxk:Y.xs[k]? =some (.i n):=by
   have:=congrArg (·[0]?) hx
   simpa using this
  have hx2:Y.xs.drop (k+1)=a.map AV.i++rest:=by
   have:=congrArg List.tail hx
   rw[List.tail_drop] at this
   simpa using this
  have hkN: ∀x∈(nd t n).kids,isN t x=true:=fun x hx=>((may_ok hm hn).kids x hx).1
  have hsplit: ∀(ks:List Int) (a:List Int),seqO (preO t f) ks=some a→ ∀(j:Nat),j<ks.length→ ∃pre b post,a=pre++b++post∧seqO (preO t f) (ks.take j)=some pre∧preO t f (ks.getD j 0)=some b∧seqO (preO t f) (ks.take (j+1))=some (pre++b):=by
   intro ks
   induction ks with
   |nil=>intro a _ j hj;simp at hj
   |cons x r ihr=>
    intro a h j hj
    simp only[seqO] at h
    cases hk:preO t f x with
    |none=>rw[hk] at h;simp at h
    |some b=>
     rw[hk] at h
     cases hr:seqO (preO t f) r with
     |none=>rw[hr] at h;simp at h
     |some c=>
      rw[hr] at h
      simp at h
      subst h
      cases j with
      |zero=>exact⟨[],b,c,by simp,rfl,by simpa using hk,by simp[seqO,hk]⟩
      |succ j=>
       obtain ⟨pre,b',post,g1,g2,g3,g4⟩:=ihr c hr j (by simpa using hj)
       exact⟨b++pre,b',post,by rw[g1];simp,by simp[seqO,hk,g2],by simpa using g3,by simp[seqO,hk,g4]⟩
  have hsp:=hsplit _ _ hs
  have hfull: ∀(j:Nat),¬j<(nd t n).kids.length→seqO (preO t f) ((nd t n).kids.take j)=some a:=fun j hj=>by rw[List.take_of_length_le (by omega)];exact hs
  clear hsplit
  refine Tri_of (m:=H.length) tt_ok Tryz.func444 rfl (by decide) Tryz.ntmps444 (by rfl) rfl ?_
  refine Yield_in i Y k (.i n) hH rfl hY hno rfl hxk ?_ ?_
  rotate_left
  ·repeat' ((conv=>whnf);(first
   |refine finQ (.inr ⟨rfl,rfl⟩)))
  repeat' ((conv=>whnf);(first
   |refine Len_in (fun hlen=>?_)
   |refine Idx_nd hn rfl ?_))
  refine W_loop (fun μ s=> ∃(j:Nat) (pre:List Int),j≤(nd t n).kids.length∧μ=(nd t n).kids.length-j∧seqO (preO t f) ((nd t n).kids.take j)=some pre∧
    s=⟨[(0,.d (treeD t)),(2,.clos (.yield Y.l) [] []),(17,.d (ints (nd t n).kids)),(18,.i (List.map intCs (nd t n).kids).length),(19,.i j)],29,H.set i (some (.yl Y (k+1+pre.length))),H.length,[]⟩) (nd t n).kids.length
   ⟨_,?_,0,[],by omega,by omega,rfl,rfl⟩ ?_
  ·exact Wk_env (by repeat (first|exact trivial|refine⟨rfl,?_⟩))
  rintro μ s1 ⟨j,pre,hj,rfl,hp,rfl⟩
  refine W_run tt_ok ?_
  have hkl:(List.map intCs (nd t n).kids).length=(nd t n).kids.length:=by simp
  refine Br_dec (fun h=>?_) (fun h=>?_)
  ·rw[hkl] at h
   have hlt:j<(nd t n).kids.length:=by omega
   obtain ⟨pre',b,post,g1,g2,g3,g4⟩:=hsp j hlt
   rw[hp] at g2
   injection g2 with g2
   subst g2
   have hget:(nd t n).kids.getD j 0=(nd t n).kids[j]:=by simp[hlt]
   rw[hget] at g3
   refine Idx_in (intCs (nd t n).kids[j]) (by simp[hlt]) (by omega) rfl ?_
   have hx3:Y.xs.drop (k+1+pre.length)=b.map AV.i++(post.map AV.i++rest):=by
    rw[← List.drop_drop,hx2,g1]
    simp
   have hc:=ih (nd t n).kids[j] b (hkN _ (List.getElem_mem hlt)) g3 (H.set i (some (.yl Y (k+1+pre.length)))) i Y (k+1+pre.length) _ (set_at hH) (noYx_set0 hno) hY hx3
   skip
   refine Tri.mono hc ?_
   rintro v H' (⟨rfl,rfl⟩|⟨rfl,rfl⟩)
   ·rw[set_two]
    repeat' ((conv=>whnf);(first
     |refine Back_in _ _ ⟨j+1,pre++b,by omega,rfl,g4,rfl⟩ (by omega) ?_
     |refine ArK_in (wrap_i64 (by omega) (by omega)) ?_))
    rw[List.length_append,←Nat.add_assoc]
    exact Wk_env (by repeat (first|exact trivial|refine⟨rfl,?_⟩))
   ·rw[set_two]
    repeat' ((conv=>whnf);(first
     |refine finQ (.inr ⟨rfl,rfl⟩)))
  ·rw[hkl] at h
   rw[hfull j (by omega)] at hp
   injection hp with hp
   subst hp
   repeat' ((conv=>whnf);(first
    |refine finQ (.inl ⟨rfl,?_⟩)))
   rw[List.length_cons,Nat.add_comm a.length 1,←Nat.add_assoc]
end Go.Eng
namespace Go.Eng
open Go Go.Proofs
theorem order_list1 (t:Tree) (n:Int) (hm:mayB t=true) (hn:isN t n=true):Seq2 443 [.ptr 0 0,.ptr 1 0] (treeD t) (.int .i64 n) ((preR t n).map AV.i):=by
 intro Y hx hY
 refine Tri_of (m:=3) tt_ok Tryz.func443 rfl (by decide) Tryz.ntmps443 (by rfl) rfl ?_
 have hd:=order_down t hm _ n _ hn (preR_eq hm hn) [some (.row [.d (treeD t)]),some (.row [.i n]),some (.yl Y 0)] 2 Y 0 [] rfl rfl hY (by rw[hx];simp)
 skip
 refine Tri.mono hd ?_
 rintro v H' (⟨rfl,rfl⟩|⟨rfl,rfl⟩)
 ·repeat' ((conv=>whnf);(first
  |refine finQ (.inl ?_)))
  rw[List.length_map,Nat.zero_add]
  rfl
 ·repeat' ((conv=>whnf);(first
  |refine finQ (.inr rfl)))
theorem order_list (t:Tree) (n:Int):Tri Tryz.prog 419 [.d (treeD t),.i n] [] fun v H=>v=.clos (.func 443) [] [.ptr 0 0,.ptr 1 0]∧H=[some (.row [.d (treeD t)]),some (.row [.i n])]:=by
 refine Tri_of (m:=0) tt_ok Tryz.func419 rfl (by decide) Tryz.ntmps419 (by rfl) rfl ?_
 repeat' ((conv=>whnf);(first
  |refine finR ?_))
 rfl
theorem order_List (t:Tree) (n:Int):Fn Tryz.prog 384 [.d (treeD t),.i n] (.d (ints (listR t n))):=by
 refine Fn_of tt_ok Tryz.func384 rfl (by decide) Tryz.ntmps384 rfl ?_
 have hall:allL t [n]=allOk t n:=by simp[allL,allOk]
 have h1:=order_all t [n]
 rw[hall] at h1
 cases ha:allOk t n
 ·rw[ha] at h1
  have e:listR t n=[]:=by unfold listR;rw[ha];rfl
  rw[e]
  repeat' ((conv=>whnf);(first
   |refine Ch_r ?_
   |refine Fn.use (h1) rfl rfl ?_
   |refine finD (F:=[]) .nsl))
 ·rw[ha] at h1
  have ha':=ha
  unfold allOk at ha'
  simp only[Bool.and_eq_true] at ha'
  have hlen:=listR_len t n
  have h64:=may_len64 ha'.1
  have e:listR t n=preR t n:=by unfold listR;rw[if_pos ha]
  rw[e] at hlen⊢
  have hc:=collect_int 443 [.ptr 0 0,.ptr 1 0] (treeD t) (.int .i64 n) _ (.inl rfl) (order_list1 t n ha'.1 ha'.2) (by omega)
  repeat' ((conv=>whnf);(first
   |refine Ch_r ?_
   |refine Fn.use (h1) rfl rfl ?_
   |refine Tri.call (order_list t n) [] rfl rfl trivial rfl rfl rfl rfl (r:=.clos (.func 443) [] [.ptr 0 0,.ptr 1 0]) (H':=[some (.row [.d (treeD t)]),some (.row [.i n])]) rfl rfl ?_
   |refine Tri.use hc ?_
   |refine fin0 rfl ?_))
  rfl
end Go.Eng
namespace Go.Eng
open Go Go.Proofs
theorem shade_Host (t:Tree) (n:Int):Fn Tryz.prog 254 [.d (treeD t),.i n] (.i (hostR t n)):=by
 refine Fn_of tt_ok Tryz.func254 rfl (by decide) Tryz.ntmps254 rfl ?_
 cases ha:allOk t n
 ·have e1:=topR_none ha
  have e2:hostR t n= -1:=by unfold hostR;rw[ha];rfl
  rw[e2]
  repeat' ((conv=>whnf);(first
   |refine Br_true (beqT (by omega)) ?_
   |refine Fn.use (order_Top t n) rfl rfl ?_
   |refine fin0 rfl ?_))
  all_goals (first|rfl|simp_all)
 ·have h1:=topR_isN ha
  have h2:=nd_pos h1
  have e2:hostR t n=(nd t (topR t n)).host:=by unfold hostR;rw[if_pos ha]
  rw[e2]
  repeat' ((conv=>whnf);(first
   |refine Br_false (beqF (by omega)) ?_
   |refine Fn.use (order_Top t n) rfl rfl ?_
   |refine Idx_nd h1 rfl ?_
   |refine fin0 rfl ?_))
  rfl
theorem shade_is (t:Tree) (n:Int):Fn Tryz.prog 252 [.d (treeD t),.i n] (.b (allOk t n)):=by
 refine Fn_of tt_ok Tryz.func252 rfl (by decide) Tryz.ntmps252 rfl ?_
 cases ha:allOk t n
 ·have e1:=topR_none ha
  repeat' ((conv=>whnf);(first
   |refine Fn.use (order_Top t n) rfl rfl ?_
   |refine fin0 rfl ?_))
  all_goals simp_all
 ·have h1:=topR_isN ha
  have h2:=nd_pos h1
  repeat' ((conv=>whnf);(first
   |refine Fn.use (order_Top t n) rfl rfl ?_
   |refine fin0 rfl ?_))
  all_goals (simp_all;try omega)
theorem ints_len {l:List Int}:(l.map intCs).length=l.length:=by simp
theorem ints_ne {l:List Int} (h:l≠[]):l.map intCs≠[]:=by simpa using h
theorem shade_Up (t:Tree) (n:Int):Fn Tryz.prog 253 [.d (treeD t),.i n] (.d (ints (shUpR t n))):=by
 refine Fn_of tt_ok Tryz.func253 rfl (by decide) Tryz.ntmps253 rfl ?_
 cases ha:allOk t n
 ·have e1:upR t n=[]:=by unfold upR;rw[ha];rfl
  have e2:hostR t n= -1:=by unfold hostR;rw[ha];rfl
  have e3:shUpR t n=[]:=by unfold shUpR;rw[ha];rfl
  have hu:=order_Up t n
  have hh:=shade_Host t n
  rw[e1] at hu
  rw[e2] at hh
  rw[e3]
  skip
  refine W_scope 0 (fun _ _=>False) rfl ?_ (fun _ _ h=>h.elim)
  refine W_run tt_ok ?_
  repeat' ((conv=>whnf);(first
   |refine Fn.use (hu) rfl rfl ?_
   |refine Fn.use (hh) rfl rfl ?_
   |refine Ch_r (Need_in ⟨by decide,by decide,by simp⟩ ?_)
   |refine fin0 rfl ?_))
  rfl
 ·have ha':=ha
  unfold allOk at ha'
  simp only[Bool.and_eq_true] at ha'
  have e3:shUpR t n=climb t (t.length+1) n:=by unfold shUpR;rw[if_pos ha]
  have hcl:=climb_len t (t.length+1) n
  have h64:=may_len64 ha'.1
  have hu:=order_Up t n
  have hh:=shade_Host t n
  have hne:=upR_ne ha
  have hul:=upR_len t n
  obtain ⟨f1,g1,g2,g3⟩:=climb_turn ha (may_ends ha'.1 ha'.2)
  rw[g3] at hcl
  rw[e3,g3]
  have hcok:=hostR_ok ha
  generalize hostR t n=c1 at *
  generalize upR t n=L1 at *
  rw[List.length_append] at hcl
  have hen:=ints_ne hne
  have hil:(List.map intCs L1).length=L1.length:=ints_len
  skip
  refine W_scope 0 (fun μ s=> ∃(c:Int) (acc:List Int),allOk t c=true∧endsF t μ c=true∧L1++climb t f1 c1=acc++climb t μ c∧acc.length+(climb t μ c).length≤100∧
   s=⟨[(0,.d (treeD t)),(1,.i c),(5,AccV 0 1 (acc.map intCs))],17,[AccB (acc.map intCs)],0,[]⟩) rfl ?_ ?_
  ·refine W_run tt_ok ?_
   repeat' ((conv=>whnf);(first
    |refine Br_bne (fun h=>?_) (fun h=>?_)
    |refine Fn.use (hu) rfl rfl ?_
    |refine Fn.use (hh) rfl rfl ?_
    |(refine App_nsl (L1.map intCs) rfl rfl hen cs1 (by rw[hil];omega) (Nat.le_of_ble_eq_true rfl) ?_)))
   ·refine Jump_in _ f1 ⟨c1,L1,hcok.resolve_left (by assumption),g2,rfl,by omega,rfl⟩ ?_
    rw[AccV_cons hen,AccB_cons hen]
    exact Wk_env (by repeat (first|exact trivial|refine⟨rfl,?_⟩))
   ·subst_vars
    rw[climb_none,List.append_nil]
    repeat' ((conv=>whnf);(first
     |refine finD (F:=[0]) (FV_tab _ rfl rfl rfl cs1)))
  ·rintro μ s1 ⟨c,acc,hc,he,hL,hlen,rfl⟩
   obtain ⟨f2,k1,k2,k3⟩:=climb_turn hc he
   have hcok2:=hostR_ok hc
   have hu2:=order_Up t c
   have hh2:=shade_Host t c
   have hul2:=upR_len t c
   have hne2:=upR_ne hc
   rw[k3] at hL hlen
   generalize hostR t c=c2 at *
   generalize upR t c=L2 at *
   rw[List.length_append] at hlen
   have hen2:=ints_ne hne2
   have hil2:(List.map intCs L2).length=L2.length:=ints_len
   have hila:(List.map intCs acc).length=acc.length:=ints_len
   have ha:=Acc_app (b:=0) (sz:=1) (rows:=acc.map intCs) (new:=L2.map intCs) hen2
   rw[← List.append_assoc] at hL
   rw[hL]
   refine W_run tt_ok ?_
   repeat' ((conv=>whnf);(first
    |refine Fn.use (hu2) rfl rfl ?_
    |refine force_in ?_))
   refine App_acc (acc.map intCs) (L2.map intCs) rfl rfl rfl rfl hen2 cs1 cs1 (by rw[hil2,hila];omega) (Nat.le_of_ble_eq_true rfl) ?_
   repeat' ((conv=>whnf);(first
    |refine Br_bne (fun h=>?_) (fun h=>?_)
    |refine Fn.use (hh2) rfl rfl ?_))
   ·refine Back_in _ _ ⟨c2,acc++L2,hcok2.resolve_left (by assumption),k2,rfl,by rw[List.length_append];omega,rfl⟩ k1 ?_
    rw[List.map_append,ha.1,ha.2]
    exact Wk_ren [1] rfl rfl ⟨⟨by rw[renB_row];rfl,lowB_row _ _⟩,trivial⟩ (by repeat (first|exact trivial|refine⟨⟨rfl,rfl⟩,?_⟩)) (by omega) (by omega)
   ·subst_vars
    rw[climb_none,List.append_nil]
    rw[show ints (acc++L2)=D.sl (acc.map intCs++L2.map intCs) by unfold ints;rw[List.map_append]]
    repeat' ((conv=>whnf);(first
     |(refine finD (F:=[1]) (FV_tab _ rfl rfl (List.length_append).symm (by intro r hr;rcases List.mem_append.1 hr with h|h <;> exact cs1 r h)))))
end Go.Eng
namespace Go.Eng
open Go Go.Proofs
theorem retO_turn {t:Tree} {holds:List Int}: ∀(f g:Nat) (a:Int),allOk t a=true→endsF t f a=true→f≤g→ ∀g',f≤g'→retO t holds g a=retO t holds g' a:=by
 intro f
 induction f using Nat.strongRecOn with
 |_ f ih=>
  intro g a ha he hg g' hg'
  obtain ⟨f',h1,h2,_⟩:=climb_turn ha he
  obtain ⟨g0,rfl⟩:=Nat.exists_eq_succ_of_ne_zero (by omega:g≠0)
  obtain ⟨g1,rfl⟩:=Nat.exists_eq_succ_of_ne_zero (by omega:g'≠0)
  simp only[retO]
  by_cases hc:hostR t a≠ -1∧(holds.any (· ==(nd t (hostR t a)).root))=false
  ·rw[if_pos hc,if_pos hc]
   exact ih f' h1 g0 _ ((hostR_ok ha).resolve_left hc.1) h2 (by omega) g1 (by omega)
  ·rw[if_neg hc,if_neg hc]
theorem retO_step {t:Tree} {holds:List Int} {c:Int} {μ:Nat} (hc:allOk t c=true) (he:endsF t μ c=true) (hμ:μ≤t.length+1):
  ∃μ',μ'<μ∧endsF t μ' (hostR t c)=true∧(hostR t c≠ -1→(holds.any (· ==(nd t (hostR t c)).root))=false→retO t holds (t.length+1) c=retO t holds (t.length+1) (hostR t c))∧
   (hostR t c= -1∨(holds.any (· ==(nd t (hostR t c)).root))=true→retO t holds (t.length+1) c=c):=by
 obtain ⟨μ',h1,h2,_⟩:=climb_turn hc he
 refine⟨μ',h1,h2,fun h3 h4=>?_,fun h3=>?_⟩
 ·have:retO t holds (t.length+1) c=retO t holds t.length (hostR t c):=by simp only[retO];rw[if_pos ⟨h3,h4⟩]
  rw[this]
  exact retO_turn μ' _ _ ((hostR_ok hc).resolve_left h3) h2 (by omega) _ (by omega)
 ·simp only[retO]
  rw[if_neg]
  rintro ⟨g1,g2⟩
  rcases h3 with h3|h3
  ·exact g1 h3
  ·rw[g2] at h3;simp at h3
theorem shade_Retarget (t:Tree) (a b:Int):Fn Tryz.prog 187 [.d (treeD t),.i a,.i b] (.i (retR t a b)):=by
 refine Fn_of tt_ok Tryz.func187 rfl (by decide) Tryz.ntmps187 rfl ?_
 cases ha:allOk t a
 ·have e:retR t a b= -1:=by unfold retR;rw[ha];rfl
  have h1:=shade_is t a
  rw[ha] at h1
  rw[e]
  refine W_scope 0 (fun _ _=>False) rfl ?_ (fun _ _ h=>h.elim)
  refine W_run tt_ok ?_
  repeat' ((conv=>whnf);(first
   |refine Fn.use (h1) rfl rfl ?_
   |refine fin0 rfl ?_))
  rfl
 cases hb:allOk t b
 ·have e:retR t a b= -1:=by unfold retR;rw[ha,hb];rfl
  have h1:=shade_is t a
  have h2:=shade_is t b
  rw[ha] at h1
  rw[hb] at h2
  rw[e]
  refine W_scope 0 (fun _ _=>False) rfl ?_ (fun _ _ h=>h.elim)
  refine W_run tt_ok ?_
  repeat' ((conv=>whnf);(first
   |refine Fn.use (h1) rfl rfl ?_
   |refine Fn.use (h2) rfl rfl ?_
   |refine fin0 rfl ?_))
  rfl
 have h1:=shade_is t a
 have h2:=shade_is t b
 rw[ha] at h1
 rw[hb] at h2
 have hu:=shade_Up t b
 have e:retR t a b=retO t (shUpR t b) (t.length+1) a:=by unfold retR;rw[ha,hb];rfl
 rw[e]
 generalize shUpR t b=holds at *
 have hm:mayB t=true∧isN t a=true:=by unfold allOk at ha;simpa using ha
 refine W_scope 0 (fun μ s=> ∃(c:Int),allOk t c=true∧endsF t μ c=true∧μ≤t.length+1∧retO t holds (t.length+1) a=retO t holds (t.length+1) c∧
   s=⟨[(0,.d (treeD t)),(1,.i c),(7,.d (ints holds))],39,[],0,[]⟩) rfl ?_ ?_
 ·refine W_run tt_ok ?_
  have hh:=shade_Host t a
  obtain ⟨μ',k1,k2,k3,k4⟩:=retO_step (holds:=holds) ha (may_ends hm.1 hm.2) (Nat.le_refl _)
  have hok:=hostR_ok ha
  generalize hostR t a=c1 at *
  by_cases h0:c1= -1
  ·rw[k4 (.inl h0)]
   subst h0
   repeat' ((conv=>whnf);(first
    |refine Fn.use (h1) rfl rfl ?_
    |refine Fn.use (h2) rfl rfl ?_
    |refine Fn.use (hu) rfl rfl ?_
    |refine Fn.use (hh) rfl rfl ?_
    |refine fin0 rfl ?_))
   rfl
  have hok1:=hok.resolve_left h0
  have hn1:isN t c1=true:=by unfold allOk at hok1;simp at hok1;exact hok1.2
  have hcn:=contains_int holds (nd t c1).root
  cases hb1:holds.any (· ==(nd t c1).root)
  ·rw[hb1] at hcn
   have e1:=k3 h0 hb1
   repeat' ((conv=>whnf);(first
    |refine Br_true (bneT (by omega)) ?_
    |refine Fn.use (h1) rfl rfl ?_
    |refine Fn.use (h2) rfl rfl ?_
    |refine Fn.use (hu) rfl rfl ?_
    |refine Fn.use (hh) rfl rfl ?_
    |refine Idx_nd hn1 rfl ?_
    |refine Fn.use (hcn) rfl rfl ?_
    |refine Jump_in _ μ' ⟨c1,hok1,k2,by omega,e1,rfl⟩ (Wk_env (by repeat (first|exact trivial|refine⟨rfl,?_⟩)))))
  ·rw[hb1] at hcn
   rw[k4 (.inr hb1)]
   repeat' ((conv=>whnf);(first
    |refine Br_true (bneT (by omega)) ?_
    |refine Fn.use (h1) rfl rfl ?_
    |refine Fn.use (h2) rfl rfl ?_
    |refine Fn.use (hu) rfl rfl ?_
    |refine Fn.use (hh) rfl rfl ?_
    |refine Idx_nd hn1 rfl ?_
    |refine Fn.use (hcn) rfl rfl ?_
    |refine fin0 rfl ?_))
   rfl
 ·rintro μ s1 ⟨c,hc,he,hμ,hL,rfl⟩
  rw[hL]
  refine W_run tt_ok ?_
  have hh:=shade_Host t c
  obtain ⟨μ',k1,k2,k3,k4⟩:=retO_step (holds:=holds) hc he hμ
  have hok:=hostR_ok hc
  generalize hostR t c=c1 at *
  by_cases h0:c1= -1
  ·rw[k4 (.inl h0)]
   subst h0
   repeat' ((conv=>whnf);(first
    |refine Fn.use (hh) rfl rfl ?_
    |refine fin0 rfl ?_))
   rfl
  have hok1:=hok.resolve_left h0
  have hn1:isN t c1=true:=by unfold allOk at hok1;simp at hok1;exact hok1.2
  have hcn:=contains_int holds (nd t c1).root
  cases hb1:holds.any (· ==(nd t c1).root)
  ·rw[hb1] at hcn
   have e1:=k3 h0 hb1
   repeat' ((conv=>whnf);(first
    |refine Br_true (bneT (by omega)) ?_
    |refine Fn.use (hh) rfl rfl ?_
    |refine Idx_nd hn1 rfl ?_
    |refine Fn.use (hcn) rfl rfl ?_
    |refine Back_in _ _ ⟨c1,hok1,k2,by omega,e1,rfl⟩ k1 (Wk_env (by repeat (first|exact trivial|refine⟨rfl,?_⟩)))))
  ·rw[hb1] at hcn
   rw[k4 (.inr hb1)]
   repeat' ((conv=>whnf);(first
    |refine Br_true (bneT (by omega)) ?_
    |refine Fn.use (hh) rfl rfl ?_
    |refine Idx_nd hn1 rfl ?_
    |refine Fn.use (hcn) rfl rfl ?_
    |refine fin0 rfl ?_))
   rfl
end Go.Eng
namespace Go.Eng
open Go Go.Proofs
theorem slots_is (t:Tree) (n:Int):Fn Tryz.prog 432 [.d (treeD t),.i n] (.b (allOk t n)):=by
 refine Fn_of tt_ok Tryz.func432 rfl (by decide) Tryz.ntmps432 rfl ?_
 cases ha:allOk t n
 ·have e1:=topR_none ha
  repeat' ((conv=>whnf);(first
   |refine Fn.use (order_Top t n) rfl rfl ?_
   |refine fin0 rfl ?_))
  all_goals simp_all
 ·have h1:=topR_isN ha
  have h2:=nd_pos h1
  repeat' ((conv=>whnf);(first
   |refine Fn.use (order_Top t n) rfl rfl ?_
   |refine fin0 rfl ?_))
  all_goals (simp_all;try omega)
theorem slots_slot (t:Tree) (n:Int) (hn:isN t n=true):Fn Tryz.prog 433 [.d (treeD t),.i n] (.b (slotB t n)):=by
 refine Fn_of tt_ok Tryz.func433 rfl (by decide) Tryz.ntmps433 rfl ?_
 repeat' ((conv=>whnf);(first
  |refine Br_beq (fun h=>?_) (fun h=>?_)
  |refine Fn.use (shade_Host t n) rfl rfl ?_
  |refine Idx_nd hn rfl ?_
  |refine fin0 rfl ?_))
 all_goals (simp only[slotB,AV.d.injEq,D.bool.injEq] at *;simp_all)
 all_goals (by_cases hh:hostR t n= -1 <;> simp[hh])
theorem slots_name (t:Tree) (n:Int):Fn Tryz.prog 446 [.d (treeD t),.i n] (.i (getP t n 4).1):=by
 refine Fn_of tt_ok Tryz.func446 rfl (by decide) Tryz.ntmps446 rfl ?_
 repeat' ((conv=>whnf);(first
  |refine Fn.use (attr_Get t n 4) rfl rfl ?_
  |refine fin0 rfl ?_))
 rfl
theorem slots_root (t:Tree) (n:Int):Fn Tryz.prog 445 [.d (treeD t),.i n] (.i (rootR t n)):=by
 refine Fn_of tt_ok Tryz.func445 rfl (by decide) Tryz.ntmps445 rfl ?_
 have h1:=slots_is t n
 cases ha:allOk t n
 ·have e:rootR t n= -1:=by unfold rootR;rw[if_pos (.inl ha)]
  rw[ha] at h1
  rw[e]
  repeat' ((conv=>whnf);(first
   |refine Fn.use (h1) rfl rfl ?_
   |refine fin0 rfl ?_))
  rfl
 ·rw[ha] at h1
  have ha':=ha
  unfold allOk at ha'
  simp only[Bool.and_eq_true] at ha'
  have hp:=may_par ha'.1 ha'.2
  by_cases h0:(nd t n).parent= -1
  ·have e:rootR t n= -1:=by unfold rootR;rw[if_pos (.inr h0)]
   rw[e]
   repeat' ((conv=>whnf);(first
    |refine Br_true (beqT (by omega)) ?_
    |refine Fn.use (h1) rfl rfl ?_
    |refine Idx_nd ha'.2 rfl ?_
    |refine fin0 rfl ?_))
   all_goals (first|rfl|(exfalso;omega))
  ·have hpn:=hp.resolve_left h0
   have e:rootR t n=(nd t (nd t n).parent).root:=by unfold rootR;rw[if_neg];rintro (h|h);rw[ha] at h;simp at h;exact h0 h
   rw[e]
   repeat' ((conv=>whnf);(first
    |refine Br_false (beqF (by omega)) ?_
    |refine Fn.use (h1) rfl rfl ?_
    |refine Idx_nd ha'.2 rfl ?_
    |refine Idx_nd hpn rfl ?_
    |refine fin0 rfl ?_))
   all_goals (first|rfl|(exfalso;omega))
end Go.Eng
