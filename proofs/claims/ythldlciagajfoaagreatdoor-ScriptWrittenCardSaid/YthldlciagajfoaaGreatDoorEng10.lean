/- What the seat's proofs lean on, part 10: the executor over abstract values, its soundness, and what the program's functions answer (Pag9, RunO, RunR, Lv22, ScL2, ScL3, ScL4, ScL5, SeatZ, SeatY, SeatX, SeatW, TieX). -/
import Derived.Test.YthldlciagajfoaaGreatDoorEng09
import Derived.Test.YthldlciagajfoaaGreatDoorEng04
import Derived.Test.YthldlciagajfoaaGreatDoorEng07
import Derived.Test.YthldlciagajfoaaGreatDoorEng06
import Derived.Test.YthldlciagajfoaaGreatDoorEng00
import Derived.Test.YthldlciagajfoaaGreatDoorChecked
import Derived.Test.YthldlciagajfoaaGreatDoorRows
import Derived.ProofKit
import Derived.JoinedOf
import Derived.Lay
import Derived.MakeChecks
import Derived.SevenTiedAt
import GoSem.ClaimGoes
import Derived.Test.YthldlciagajfoaaGreatDoorEng05
import Derived.Lib.LaidU8
import Derived.KernelRfl
import Derived.LaidByTextLater
set_option linter.all false
set_option linter.unusedVariables false
set_option linter.unusedSimpArgs false
set_option maxRecDepth 100000
namespace Go.Eng
open Go Go.Proofs
def opsH:Heap:=[some (.mp [0,1,2,3,4,5,6,7,8,9,10,11,12,13,14,15,16,17,18,19,20,21] [.d (.fn 138),.d (.fn 141),.clos (.func 207) [] [.ptr 5 0],.clos (.func 207) [] [.ptr 6 0],.clos (.func 207) [] [.ptr 7 0],.clos (.func 207) [] [.ptr 8 0],.d (.fn 153),.clos (.func 207) [] [.ptr 9 0],.clos (.func 207) [] [.ptr 10 0],.clos (.func 207) [] [.ptr 11 0],.clos (.func 207) [] [.ptr 12 0],.clos (.func 207) [] [.ptr 13 0],.clos (.func 207) [] [.ptr 14 0],.d (.fn 167),.clos (.func 207) [] [.ptr 15 0],.clos (.func 207) [] [.ptr 16 0],.clos (.func 207) [] [.ptr 17 0],.clos (.func 207) [] [.ptr 18 0],.clos (.func 207) [] [.ptr 19 0],.clos (.func 207) [] [.ptr 20 0],.d (.fn 181),.clos (.func 207) [] [.ptr 21 0]]),some (.row [.d (.fn 144)]),some (.row [.d (.fn 147)]),some (.row [.d (.fn 149)]),some (.row [.d (.fn 151)]),some (.row [.d (.fn 155)]),some (.row [.d (.fn 158)]),some (.row [.d (.fn 160)]),some (.row [.d (.fn 161)]),some (.row [.d (.fn 163)]),some (.row [.d (.fn 165)]),some (.row [.d (.fn 169)]),some (.row [.d (.fn 171)]),some (.row [.d (.fn 173)]),some (.row [.d (.fn 175)]),some (.row [.d (.fn 177)]),some (.row [.d (.fn 179)]),some (.row [.d (.fn 183)])]
set_option maxHeartbeats 1000000 in
theorem ops_run (A B C D:Option Blk) (K:AV→Heap→Prop) (hK:K (.mp 4) ([A,B,C,D]++opsH)):Tri Tryz.prog 113 [] [A,B,C,D] K:=by
 refine Tri_of (m:=4) tt_ok Tryz.func113 rfl (by decide) Tryz.ntmps113 (by rfl) rfl ?_
 repeat' ((conv=>whnf);(first
  |refine Tri_of tt_ok Tryz.func143 rfl (by decide) Tryz.ntmps143 rfl rfl ?_
  |refine finQ ?_))
 refine Eq.mp (?_:K (.mp 4) ([A,B,C,D]++opsH)=_) hK
 kernel_rfl
def smB (t:Tree):Bool:=Nat.ble t.length 1000&&t.all fun x=>Nat.ble x.kids.length 1000&&Nat.ble x.attrs.length 1000
theorem smB_of {t:Tree} (h:smB t=true):SmallT t:=by
 unfold smB at h
 simp only[Bool.and_eq_true,List.all_eq_true] at h
 exact⟨Nat.le_of_ble_eq_true h.1,fun x hx=>⟨Nat.le_of_ble_eq_true (h.2 x hx).1,Nat.le_of_ble_eq_true (h.2 x hx).2⟩⟩
def opG (n:Nat) (s:PS) (d a b c:Int) (fl:Bool) (p:List Step):Option (PS×Int×Int):=
 if d=0 then (if smB s.tree then some (madeR s (makeR s.tree a b).1 (makeR s.tree a b).2.1 (makeR s.tree a b).2.2) else none)
 else if d=2 then (if decide (c= -1)&&smB s.tree&&insOk s.tree a b&&mayB (putKid s.tree a b)&&smB (putKid s.tree a b) then some ({ s with tree:=putKid s.tree a b },0,0) else none)
 else if d=6 then (if s.progs.isEmpty then some (progR s p) else none)
 else if d=7 then (if Nat.ble s.hears.length 1000&&Nat.ble s.progs.length 64 then some ((hearR s a b c fl).1,0,(hearR s a b c fl).2) else none)
 else if d=10 then (giveN n s a).map fun r=>(r.1,0,r.2)
 else if 0≤d∧d≤21 then none else some (s,0,12)
def resRow (s:PS) (d k e:Int):PRow:=⟨3,0,d,k,s.focus,0,0,e⟩
def doG (n:Nat) (s:PS) (d a b c:Int) (fl:Bool) (p:List Step):Option (PS×Int×Int):=
 match opG n { s with fuel:=s.fuelM } d a b c fl p with
 |none=>none
 |some (s',k,e)=>if Nat.ble s'.rows.length 900000 then some (addRow s' (resRow s' d k e),k,e) else none
theorem lkV_none: ∀(ks:List Int) (vs:List AV) (d:Int),(∀ k∈ks,d≠k)→lkV ks vs d=none
 |[],_,_,_=>rfl
 |_::_,[],_,_=>rfl
 |k::t,x::xs,d,h=>by
  simp only[lkV,decide_eq_false (h k (by simp))]
  exact lkV_none t xs d fun k hk=>h k (by simp[hk])
theorem ops_no (d:Int) (h: ¬(0≤d∧d≤21)) (vs:List AV) (hv:vs.length=22):lkV [0,1,2,3,4,5,6,7,8,9,10,11,12,13,14,15,16,17,18,19,20,21] vs d=none:=
 lkV_none _ _ _ fun k hk e=>by
  subst e
  simp only[List.mem_cons,List.not_mem_nil,or_false] at hk
  omega
set_option maxHeartbeats 1000000 in
theorem page_Do (n:Nat) (s s':PS) (d a b c k e:Int) (fl:Bool) (p:List Step) (hd:doG n s d a b c fl p=some (s',k,e)):
  Tri Tryz.prog 84 [.ptr 0 0,aggD (opC d a b c fl p)] (pgI s) fun v H=>v=.tup [.i k,.i e]∧H=pgO s':=by
 unfold doG at hd
 cases ho:opG n { s with fuel:=s.fuelM } d a b c fl p with
 |none=>rw[ho] at hd;simp at hd
 |some q=>
 obtain ⟨s1,k1,e1⟩:=q
 rw[ho] at hd
 simp only at hd
 split at hd
 rotate_left
 ·simp at hd
 rename_i hrb
 have hrb:=Nat.le_of_ble_eq_true hrb
 simp only[Option.some.injEq,Prod.mk.injEq] at hd
 obtain ⟨rfl,rfl,rfl⟩:=hd
 have hlim:(rowsP s1).length+[(resRow s1 d k1 e1).cs].length≤1000000:=by simp only[rowsP,List.length_map,List.length_cons,List.length_nil];omega
 have hops:=fun (A B C D:Option Blk) (K:AV→Heap→Prop) hK=>ops_run A B C D K hK
 unfold opG at ho
 refine Tri_of (m:=3) tt_ok Tryz.func84 rfl (by decide) Tryz.ntmps84 (by rfl) rfl ?_
 split at ho
 ·rename_i hd0
  subst hd0
  split at ho
  rotate_left
  ·simp at ho
  rename_i hsm
  injection ho with ho
  have h1:=op_make { s with fuel:=s.fuelM } 0 a b c fl p (smB_of hsm)
  rw[ho] at h1
  repeat' ((conv=>whnf);(first
   |(refine finPO 23 [] (by decide) (by decide) (congrArg (fun x=>some (some (Blk.row x))) (pgC_add s1 (resRow s1 _ k1 e1) 22 23 2)) (by rw[accB_add];rfl) rfl rfl (FV_tups ⟨.same _ rfl,.same _ rfl,trivial⟩))
   |(refine App_acc (rowsP s1) [(resRow s1 _ k1 e1).cs] rfl rfl rfl rfl (by simp) cs8p (by intro r hr;simp at hr;subst hr;rfl) hlim (Nat.le_of_ble_eq_true rfl) ?_)
   |refine W_draw 1 tt_ok mixed (by kernel_rfl) ?_
   |refine CallP_in opsH (fun K' hK'=>hops _ _ _ _ K' hK') ?_
   |refine Lk_some _ rfl ?_
   |refine Tri.pg 0 1 2 22 rfl h1 rfl rfl rfl (by decide) (by decide) (by decide) rfl rfl rfl ?_
   |refine force_in ?_))
 split at ho
 ·rename_i hd2
  subst hd2
  split at ho
  rotate_left
  ·simp at ho
  rename_i hsm
  simp only[Bool.and_eq_true,decide_eq_true_eq] at hsm
  obtain ⟨⟨⟨⟨rfl,q1⟩,q2⟩,q3⟩,q4⟩:=hsm
  injection ho with ho
  have h1:=op_insert { s with fuel:=s.fuelM } 2 a b fl p (smB_of q1) q2 q3 (smB_of q4)
  simp only[Prod.mk.injEq] at ho
  obtain ⟨rfl,rfl,rfl⟩:=ho
  generalize putKid s.tree a b=t2 at *
  repeat' ((conv=>whnf);(first
   |(refine finPO 24 [] (by decide) (by decide) (congrArg (fun x=>some (some (Blk.row x))) (pgC_add { s with fuel:=s.fuelM,tree:=t2 } (resRow { s with fuel:=s.fuelM,tree:=t2 } _ 0 0) 23 24 2)) (by rw[accB_add];rfl) rfl rfl (FV_tups ⟨.same _ rfl,.same _ rfl,trivial⟩))
   |(refine App_acc (rowsP { s with fuel:=s.fuelM,tree:=t2 }) [(resRow { s with fuel:=s.fuelM,tree:=t2 } _ 0 0).cs] rfl rfl rfl rfl (by simp) cs8p (by intro r hr;simp at hr;subst hr;rfl) hlim (Nat.le_of_ble_eq_true rfl) ?_)
   |refine W_draw 1 tt_ok mixed (by kernel_rfl) ?_
   |refine CallP_in opsH (fun K' hK'=>hops _ _ _ _ K' hK') ?_
   |refine Lk_some _ rfl ?_
   |refine Tri_of tt_ok Tryz.func207 rfl (by decide) Tryz.ntmps207 rfl rfl ?_
   |refine Tri.pg 0 1 2 23 rfl h1 rfl rfl rfl (by decide) (by decide) (by decide) rfl rfl rfl ?_
   |refine finQ ?_
   |refine force_in ?_))
 split at ho
 ·rename_i hd6
  subst hd6
  split at ho
  rotate_left
  ·simp at ho
  rename_i hsm
  injection ho with ho
  have h1:=op_prog { s with fuel:=s.fuelM } 6 a b c fl p (List.isEmpty_iff.1 hsm)
  rw[ho] at h1
  repeat' ((conv=>whnf);(first
   |(refine finPO 23 [] (by decide) (by decide) (congrArg (fun x=>some (some (Blk.row x))) (pgC_add s1 (resRow s1 _ k1 e1) 22 23 2)) (by rw[accB_add];rfl) rfl rfl (FV_tups ⟨.same _ rfl,.same _ rfl,trivial⟩))
   |(refine App_acc (rowsP s1) [(resRow s1 _ k1 e1).cs] rfl rfl rfl rfl (by simp) cs8p (by intro r hr;simp at hr;subst hr;rfl) hlim (Nat.le_of_ble_eq_true rfl) ?_)
   |refine W_draw 1 tt_ok mixed (by kernel_rfl) ?_
   |refine CallP_in opsH (fun K' hK'=>hops _ _ _ _ K' hK') ?_
   |refine Lk_some _ rfl ?_
   |refine Tri.pg 0 1 2 22 rfl h1 rfl rfl rfl (by decide) (by decide) (by decide) rfl rfl rfl ?_
   |refine force_in ?_))
 split at ho
 ·rename_i hd7
  subst hd7
  split at ho
  rotate_left
  ·simp at ho
  rename_i hsm
  simp only[Bool.and_eq_true] at hsm
  injection ho with ho
  have h1:=op_hear { s with fuel:=s.fuelM } 7 a b c fl p (Nat.le_of_ble_eq_true hsm.1) (Nat.le_of_ble_eq_true hsm.2)
  simp only[Prod.mk.injEq] at ho
  obtain ⟨z1,rfl,z3⟩:=ho
  rw[z1,z3] at h1
  repeat' ((conv=>whnf);(first
   |(refine finPO 24 [] (by decide) (by decide) (congrArg (fun x=>some (some (Blk.row x))) (pgC_add s1 (resRow s1 _ 0 e1) 23 24 2)) (by rw[accB_add];rfl) rfl rfl (FV_tups ⟨.same _ rfl,.same _ rfl,trivial⟩))
   |(refine App_acc (rowsP s1) [(resRow s1 _ 0 e1).cs] rfl rfl rfl rfl (by simp) cs8p (by intro r hr;simp at hr;subst hr;rfl) hlim (Nat.le_of_ble_eq_true rfl) ?_)
   |refine W_draw 1 tt_ok mixed (by kernel_rfl) ?_
   |refine CallP_in opsH (fun K' hK'=>hops _ _ _ _ K' hK') ?_
   |refine Lk_some _ rfl ?_
   |refine Tri_of tt_ok Tryz.func207 rfl (by decide) Tryz.ntmps207 rfl rfl ?_
   |refine Tri.pg 0 1 2 23 rfl h1 rfl rfl rfl (by decide) (by decide) (by decide) rfl rfl rfl ?_
   |refine finQ ?_
   |refine force_in ?_))
 split at ho
 ·rename_i hd10
  subst hd10
  cases hg:giveN n { s with fuel:=s.fuelM } a with
  |none=>rw[hg] at ho;simp at ho
  |some q=>
  obtain ⟨z1,z2⟩:=q
  rw[hg] at ho
  simp only[Option.map_some,Option.some.injEq,Prod.mk.injEq] at ho
  obtain ⟨rfl,rfl,rfl⟩:=ho
  have h1:=op_give n _ _ 10 a b c _ fl p hg
  repeat' ((conv=>whnf);(first
   |(refine finPO 24 [] (by decide) (by decide) (congrArg (fun x=>some (some (Blk.row x))) (pgC_add z1 (resRow z1 _ 0 z2) 23 24 2)) (by rw[accB_add];rfl) rfl rfl (FV_tups ⟨.same _ rfl,.same _ rfl,trivial⟩))
   |(refine App_acc (rowsP z1) [(resRow z1 _ 0 z2).cs] rfl rfl rfl rfl (by simp) cs8p (by intro r hr;simp at hr;subst hr;rfl) hlim (Nat.le_of_ble_eq_true rfl) ?_)
   |refine W_draw 1 tt_ok mixed (by kernel_rfl) ?_
   |refine CallP_in opsH (fun K' hK'=>hops _ _ _ _ K' hK') ?_
   |refine Lk_some _ rfl ?_
   |refine Tri_of tt_ok Tryz.func207 rfl (by decide) Tryz.ntmps207 rfl rfl ?_
   |refine Tri.pg 0 1 2 23 rfl h1 rfl rfl rfl (by decide) (by decide) (by decide) rfl rfl rfl ?_
   |refine finQ ?_
   |refine force_in ?_))
 split at ho
 ·simp at ho
 rename_i hno
 simp only[Option.some.injEq,Prod.mk.injEq] at ho
 obtain ⟨rfl,rfl,rfl⟩:=ho
 have hlk:=ops_no d hno
 repeat' ((conv=>whnf);(first
  |(refine finPO 22 [] (by decide) (by decide) (congrArg (fun x=>some (some (Blk.row x))) (pgC_add { s with fuel:=s.fuelM } (resRow { s with fuel:=s.fuelM } _ 0 12) 1 22 2)) (by rw[accB_add];rfl) rfl rfl (FV_tups ⟨.same _ rfl,.same _ rfl,trivial⟩))
  |(refine App_acc (rowsP { s with fuel:=s.fuelM }) [(resRow { s with fuel:=s.fuelM } _ 0 12).cs] rfl rfl rfl rfl (by simp) cs8p (by intro r hr;simp at hr;subst hr;rfl) hlim (Nat.le_of_ble_eq_true rfl) ?_)
  |refine W_draw 1 tt_ok mixed (by kernel_rfl) ?_
  |refine CallP_in opsH (fun K' hK'=>hops _ _ _ _ K' hK') ?_
  |refine Lk_none (hlk _ rfl) ?_
  |refine force_in ?_))
end Go.Eng
namespace Go.Eng
open Go Go.Proofs
structure OutR where
 num:Int
 err:Int
 foc:Int
 acts:List (Int×Int)
def OutR.cs (x:OutR):List D:=[.int .i64 x.num,.int .i64 x.err,.int .i64 x.foc,.sl (x.acts.map actCs)]
abbrev outA (x:OutR):AV:=.agg (x.cs.map .d)
theorem cs4o {l:List OutR}: ∀r∈l.map OutR.cs,r.length=4:=by intro r hr;obtain ⟨x,_,rfl⟩:=List.mem_map.1 hr;rfl
def outG (n:Nat) (s:PS) (o:OpR):Option (PS×OutR):=
 match doG n s o.d o.a o.b o.c o.fl o.p with
 |none=>none
 |some (s',k,e)=>if smB s'.tree&& !s'.tree.isEmpty then some (s',⟨k,e,s'.focus,actsR s'.tree s'.focus⟩) else none
def outsG (n:Nat):PS→List OpR→Option (PS×List OutR)
 |s,[]=>some (s,[])
 |s,o::r=>match outG n s o with
  |none=>none
  |some (s1,x)=>match outsG n s1 r with
   |none=>none
   |some (s2,l)=>some (s2,x::l)
def outH (s:PS) (l:List OpR):Heap:=[some (.row (pgC s 1 2)),AccB (rowsP s),some (.mp [] []),some (.row [.ptr 0 0]),some (.row [.d (opsD l)]),some (.row [.clos (.func 83) [] [.ptr 3 0]])]
def outPg (s:PS) (l:List OpR) (y:Option Blk):Heap:=[some (.row (pgC s 7 2)),none,some (.mp [] []),some (.row [.ptr 0 0]),some (.row [.d (opsD l)]),some (.row [.clos (.func 83) [] [.ptr 3 0]]),y,AccB (rowsP s)]
theorem FV_clos1 {g F:List Nat} {H:Heap} {fn:Go.Fn} {a b:Nat} (h:g[b]? =some a):FV g F H (.clos fn [] [.ptr a 0]) (.clos fn [] [.ptr b 0]):=
 .clos fn [] [.ptr a 0] [] [.ptr b 0] rfl rfl (fun i x y hx=>by simp at hx) (fun i x y hx hy=>by
  match i with
  |0=>simp at hx hy;subst hx hy;exact .ptr _ _ _ h
  |i+1=>simp at hx)
theorem noYx_accB {g:List Nat} {j:Nat} {rows:List (List D)}:noYx g [AccB rows] j=true:=by
 by_cases h:rows=[]
 ·rw[h,AccB_nil];rfl
 ·rw[AccB_cons h];rfl
theorem noY_outPg (s:PS) (l:List OpR):noY (outPg s l none)=true:=by
 show noY [AccB (rowsP s)]=true
 exact noY_accB rfl
def outF (s:PS) (l:List OpR) (Y:Ysp) (j:Nat) (c:List D) (z:List AV):Heap:=[some (.row (pgC s 11 2)),none,some (.mp [] []),some (.row [.ptr 0 0]),some (.row [.d (opsD l)]),some (.row [.clos (.func 83) [] [.ptr 3 0]]),some (.yl Y j),none,some (.row (c.map .d)),some (.row (c.map .d)),some (.row z),AccB (rowsP s)]
theorem run_outs2 (n:Nat) (l:List OpR) (s s':PS) (xs:List OutR) (hg:outsG n s l=some (s',xs)) (Y:Ysp) (hx:Y.xs=xs.map outA) (hY:YLaw Tryz.prog Y):
  Tri Tryz.prog 88 ([]++[.clos (.yield Y.l) [] []]++[.ptr 4 0,.ptr 5 0]) (outH s l++[some (.yl Y 0)]) fun v H1=>noY (H1.set 6 none)=true∧
   ((H1[6]? =some (some (.yl Y (xs.map outA).length))∧(true=true→H1.set 6 none=outPg s' l none))∨(H1[6]? =some (some (.yz Y))∧(false=true→H1.set 6 none=outPg s' l none))):=by
 refine Tri_of (m:=7) tt_ok Tryz.func88 rfl (by decide) Tryz.ntmps88 (by rfl) rfl ?_
 have hkl:(l.map OpR.cs).length=l.length:=by simp
 repeat' ((conv=>whnf);(first
  |refine Len_in (fun hlen=>?_)))
 refine W_loop (fun μ st=> ∃(j:Nat) (sj:PS) (dn rest:List OutR),j≤l.length∧μ=l.length-j∧outsG n sj (l.drop j)=some (s',rest)∧dn++rest=xs∧dn.length=j∧
   st=⟨[(0,.clos (.yield Y.l) [] []),(1,.ptr 4 0),(2,.ptr 5 0),(6,.d (opsD l)),(7,.i (List.map OpR.cs l).length),(8,.i j)],19,outPg sj l (some (.yl Y j)),7,[]⟩) l.length ⟨_,?_,0,s,[],xs,by omega,by omega,by rw[List.drop_zero];exact hg,rfl,rfl,rfl⟩ ?_
 ·refine Wk_H (outH s l++[some (.yl Y 0)]) (by kernel_rfl) ?_
  refine Wk_fzI [0,1,2,3,4,5,6,1] [0,8,2,3,4,5,6,1] [] ?_ ?_ ?_ ?_ ?_ ?_ ?_ ?_ ?_
  all_goals first
   |exact⟨.inr rfl,.inl rfl,.inr rfl,.inr rfl,.inr rfl,.inr rfl,.inr rfl,.inr rfl,trivial⟩
   |exact⟨⟨_,rfl,FB_pg rfl rfl⟩,⟨_,rfl,.mp _ _ _ rfl fun i x y h=>by simp at h⟩,⟨_,rfl,FB_rows ⟨.ptr _ _ _ rfl,trivial⟩⟩,⟨_,rfl,FB_rows ⟨.same _ rfl,trivial⟩⟩,⟨_,rfl,FB_rows ⟨FV_clos1 rfl,trivial⟩⟩,⟨_,rfl,.yl _ _⟩,HFz_acc rfl trivial⟩
   |exact⟨.same _ rfl,.ptr _ _ _ rfl,.ptr _ _ _ rfl,.same _ rfl,.same _ rfl,.same _ rfl,trivial⟩
   |(show 7≤8;decide)
   |(intro i hi;match i,hi with|0,_=>rfl|1,_=>rfl|2,_=>rfl|3,_=>rfl|4,_=>rfl|5,_=>rfl|6,_=>rfl)
   |rfl
 rintro μ s1 ⟨j,sj,dn,rest,hj,rfl,hG,hX,hD,rfl⟩
 refine W_run tt_ok ?_
 by_cases hlt:j<l.length
 ·have hidx:(l.map OpR.cs)[(j:Int).toNat]? =some (l[j]).cs:=by simp[hlt]
  rw[List.drop_eq_getElem_cons hlt] at hG
  generalize l[j]=o at *
  simp only[outsG] at hG
  cases hO:outG n sj o with
  |none=>rw[hO] at hG;simp at hG
  |some q=>
  obtain ⟨s2,x⟩:=q
  rw[hO] at hG
  simp only at hG
  cases hR:outsG n s2 (l.drop (j+1)) with
  |none=>rw[hR] at hG;simp at hG
  |some q=>
  obtain ⟨s3,r⟩:=q
  rw[hR] at hG
  simp only[Option.some.injEq,Prod.mk.injEq] at hG
  obtain ⟨rfl,rfl⟩:=hG
  obtain ⟨od,oa,ob,oc,ofl,op⟩:=o
  unfold outG at hO
  dsimp only at hO
  cases hd:doG n sj od oa ob oc ofl op with
  |none=>rw[hd] at hO;simp at hO
  |some q=>
  obtain ⟨s4,k,e⟩:=q
  rw[hd] at hO
  simp only at hO
  split at hO
  rotate_left
  ·simp at hO
  rename_i hsm
  simp only[Option.some.injEq,Prod.mk.injEq] at hO
  obtain ⟨rfl,rfl⟩:=hO
  simp only[Bool.and_eq_true] at hsm
  have hne:s4.tree≠[]:=by intro h;rw[h] at hsm;simp at hsm
  have h1:=page_Do n sj s4 od oa ob oc k e ofl op hd
  have h2:=page_Focus s4
  have h3:=page_View s4 hne (smB_of hsm.1)
  have h4:=run_Actives s4.tree s4.focus
  have hxk:Y.xs[j]? =some (outA ⟨k,e,s4.focus,actsR s4.tree s4.focus⟩):=by
   rw[hx,←hX,List.getElem?_map,List.getElem?_append_right (by omega),hD,Nat.sub_self]
   rfl
  have hX2:(dn++[⟨k,e,s4.focus,actsR s4.tree s4.focus⟩])++r=xs:=by rw[List.append_assoc];exact hX
  have hD2:(dn++[(⟨k,e,s4.focus,actsR s4.tree s4.focus⟩:OutR)]).length=j+1:=by rw[List.length_append,hD];rfl
  generalize actsR s4.tree s4.focus=ac at *
  generalize s4.focus=fo at *
  repeat' ((conv=>whnf);(first
   |refine W_float (86+4) 3 113 tt_ok mixed (by kernel_rfl) ?_
   |refine And.intro (fun _=>rfl) ?_
   |refine Br_true (decide_eq_true (by omega)) ?_
   |refine Idx_in _ hidx (by omega) rfl ?_
   |refine Tri_of tt_ok Tryz.func83 rfl (by decide) Tryz.ntmps83 rfl rfl ?_
   |refine Tri.pg 0 7 2 11 rfl h1 rfl rfl rfl (by decide) (by decide) (by decide) rfl rfl rfl ?_
   |refine CallH_in (outF s4 l Y j (opC od oa ob oc ofl op) [.i 0,.i 0,.i 0,.nsl]) (Nat.le_of_ble_eq_true rfl) (fun K' hK'=>Tri.pgS 0 11 2 h2 rfl rfl rfl rfl (by decide) (by decide) (by decide) rfl rfl rfl hK') ?_
   |refine CallH_in (outF s4 l Y j (opC od oa ob oc ofl op) [.i 0,.i 0,.i 0,.nsl]) (Nat.le_of_ble_eq_true rfl) (fun K' hK'=>Tri.pgS 0 11 2 h3 rfl rfl rfl rfl (by decide) (by decide) (by decide) rfl rfl rfl hK') ?_
   |refine CallF_in h4 rfl rfl ?_
   |refine finQ ⟨?_,.inr ⟨rfl,fun h=>by cases h⟩⟩
   |refine finQ ?_
   |refine Yield_in 6 Y j (outA ⟨k,e,fo,ac⟩) rfl rfl hY noYx_accB rfl hxk ?_ ?_
   |refine Back_in _ _ ⟨j+1,s4,_,r,by omega,rfl,hR,hX2,hD2,rfl⟩ (by omega) ?_
   |refine ArK_in (wrap_i64 (by omega) (by omega)) ?_))
  ·refine Wk_H (outF s4 l Y (j+1) (opC od oa ob oc ofl op) [.i k,.i e,.i fo,.d (.sl (ac.map actCs))]) (by kernel_rfl) ?_
   refine Wk_fzI [0,1,2,3,4,5,6,11] [0,1,2,3,4,5,6,11] [] ?_ ?_ ?_ ?_ ?_ ?_ ?_ ?_ ?_
   all_goals first
    |exact⟨.inr rfl,.inl rfl,.inr rfl,.inr rfl,.inr rfl,.inr rfl,.inr rfl,.inr rfl,trivial⟩
    |exact⟨⟨_,rfl,FB_pg rfl rfl⟩,⟨_,rfl,.mp _ _ _ rfl fun i x y h=>by simp at h⟩,⟨_,rfl,FB_rows ⟨.ptr _ _ _ rfl,trivial⟩⟩,⟨_,rfl,FB_rows ⟨.same _ rfl,trivial⟩⟩,⟨_,rfl,FB_rows ⟨FV_clos1 rfl,trivial⟩⟩,⟨_,rfl,.yl _ _⟩,HFz_acc rfl trivial⟩
    |exact⟨.same _ rfl,.ptr _ _ _ rfl,.ptr _ _ _ rfl,.same _ rfl,.same _ rfl,.same _ rfl,trivial⟩
    |(show 7≤8;decide)
    |(intro i hi;match i,hi with|0,_=>rfl|1,_=>rfl|2,_=>rfl|3,_=>rfl|4,_=>rfl|5,_=>rfl|6,_=>rfl)
    |rfl
  ·show noY [AccB (rowsP s4)]=true
   exact noY_accB rfl
 ·have hjl:j=l.length:=by omega
  subst hjl
  rw[List.drop_length] at hG
  simp only[outsG,Option.some.injEq,Prod.mk.injEq] at hG
  obtain ⟨rfl,rfl⟩:=hG
  rw[List.append_nil] at hX
  subst hX
  have hDl:(dn.map outA).length=l.length:=by rw[List.length_map,hD]
  repeat' ((conv=>whnf);(first
   |refine Br_false (decide_eq_false (by omega)) ?_
   |refine finQ ?_))
  refine⟨noY_outPg sj l,.inl ⟨?_,fun _=>rfl⟩⟩
  rw[hDl]
  rfl
end Go.Eng
namespace Go.Eng
open Go Go.Proofs
def oH (cap fuel depth:Int) (v:AV):Heap:=[some (.row [.i cap,.i fuel,.i depth]),some (.row [.nsl,.nsl]),none,none,none,some (.row [.nsl,.nsl]),none,none,none,some (.row [v]),some .dfr]
theorem outA_args (xs:List OutR): ∀(k:Nat) (x:AV),(xs.map outA)[k]? =some x→(argsY x).length=[7].length∧ ∀y∈argsY x,dat y=true:=by
 intro k x hx
 rw[List.getElem?_map] at hx
 cases h:xs[k]? with
 |none=>rw[h] at hx;simp at hx
 |some o=>
  rw[h] at hx
  simp at hx
  subst hx
  refine⟨rfl,fun y hy=>?_⟩
  have:y=outA o:=by
   have e:argsY (outA o)=[outA o]:=rfl
   rw[e] at hy
   simpa using hy
  subst this
  rfl
theorem patch_out (cap fuel depth:Int) (s':PS) (l:List OpR) (v:AV) (b:Option Blk):
  patch [2,3,4,6,7,8] (oH cap fuel depth v++[b]) (outPg s' l none)=[some (.row [.i cap,.i fuel,.i depth]),some (.row [.nsl,.nsl]),some (.row (pgC s' 13 4)),none,some (.mp [] []),some (.row [.nsl,.nsl]),
   some (.row [.ptr 2 0]),some (.row [.d (opsD l)]),some (.row [.clos (.func 83) [] [.ptr 6 0]]),some (.row [v]),some .dfr,b,none,AccB (rowsP s')]:=by
 have e1:renB (hmap [2,3,4,6,7,8] 12) (.row (pgC s' 7 2))=.row (pgC s' 13 4):=by
  show Blk.row (renL _ _)=_
  rw[ren_pgC (k:=13) (c:=4) rfl rfl]
 have e2:renH (hmap [2,3,4,6,7,8] 12) [none,AccB (rowsP s')]=[none,AccB (rowsP s')]:=by
  by_cases h:rowsP s'=[]
  ·rw[h,AccB_nil];rfl
  ·rw[AccB_cons h];simp only[renH,renB_row]
 have e3:patch [2,3,4,6,7,8] (oH cap fuel depth v++[b]) (outPg s' l none)=[some (.row [.i cap,.i fuel,.i depth]),some (.row [.nsl,.nsl]),some (renB (hmap [2,3,4,6,7,8] 12) (.row (pgC s' 7 2))),none,some (.mp [] []),some (.row [.nsl,.nsl]),
   some (.row [.ptr 2 0]),some (.row [.d (opsD l)]),some (.row [.clos (.func 83) [] [.ptr 6 0]]),some (.row [v]),some .dfr,b]++renH (hmap [2,3,4,6,7,8] 12) [none,AccB (rowsP s')]:=rfl
 rw[e3,e1,e2]
 rfl
theorem run_Run (n:Nat) (cap fuel depth:Int) (hc:okC cap fuel depth=true) (l:List OpR) (s':PS) (xs:List OutR) (hg:outsG n (ps0 cap fuel depth) l=some (s',xs)) (hne:xs≠[]) (hl:l.length≤1000) (hlx:xs.length≤1000) (hrw:s'.rows.length≤90000):
  Fn Tryz.prog 33 [aggD (cfgD cap fuel depth),.d (opsD l)] (.tup [.agg [.d (.sl (xs.map OutR.cs)),.d (.sl (rowsP s'))],.i 0]):=by
 refine Fn_of tt_ok Tryz.func33 rfl (by decide) Tryz.ntmps33 rfl ?_
 have hN:=page_New cap fuel depth hc
 have hA0:AccB (rowsP (ps0 cap fuel depth))=none:=by show AccB []=none;exact AccB_nil
 generalize ps0 cap fuel depth=s0 at *
 have hkl:(l.map OpR.cs).length=l.length:=by simp
 have hR:=page_Rows s' hrw
 repeat' ((conv=>whnf);(first
  |refine Br_false (decide_eq_false (by omega)) ?_
  |refine Len_in (fun hlen=>?_)
  |(refine Tri.call hN [] rfl rfl trivial rfl rfl rfl (noY_pgI s0) (r:=.tup [.ptr 2 0,.i 0]) (H':=[some (.row [.i cap,.i fuel,.i depth]),some (.row [.nsl,.nsl]),some (.row (pgC s0 3 4)),none,some (.mp [] [])]) rfl (by rw[patch_nil,renH_pgI,hA0];rfl) ?_)
  |refine Tri_of tt_ok Tryz.func57 rfl (by decide) Tryz.ntmps57 rfl rfl ?_
  |refine Tri_of tt_ok Tryz.func56 rfl (by decide) Tryz.ntmps56 rfl rfl ?_
  |refine Tri_of tt_ok Tryz.func82 rfl (by decide) Tryz.ntmps82 rfl rfl ?_
  |refine finQ ?_))
 conv=>whnf
 refine W_rangeG [2,3,4,6,7,8] (fs0:=[]) (cs0:=[.ptr 4 0,.ptr 5 0]) (H0:=outH s0 l) (ps:=[7]) (xs.map outA)
  (fun k H=>(k=0∧H=oH cap fuel depth .nsl)∨(0<k∧H=oH cap fuel depth (AccV 11 4 ((xs.take k).map OutR.cs))++[AccB ((xs.take k).map OutR.cs)])) (fun _ _=>False) rfl rfl rfl
  ⟨⟨by show _=some (some (Blk.row (renL (gOf [2,3,4,6,7,8]) (pgC s0 1 2))));rw[ren_pgC (k:=3) (c:=4) rfl rfl];rfl,low_pgC (by show 1<6;decide) (by show 2<6;decide)⟩,HLe_acc (by rw[hA0];rfl) ⟨⟨rfl,rfl⟩,⟨rfl,rfl⟩,⟨rfl,rfl⟩,⟨rfl,rfl⟩,trivial⟩⟩ rfl rfl rfl rfl (by decide) rfl (outA_args xs)
  (fun b H=>b=true→H=outPg s' l none) (fun Y hx hY=>run_outs2 n l s0 s' xs hg Y hx hY) (.inl ⟨rfl,rfl⟩) ?_ ?_ ?_
 ·rintro lp k z H' hx hH hln hY
  obtain ⟨x,hxk,rfl⟩: ∃x,xs[k]? =some x∧z=outA x:=by
   rw[List.getElem?_map] at hx
   cases h:xs[k]? with
   |none=>rw[h] at hx;simp at hx
   |some c=>rw[h] at hx;simp at hx;exact⟨c,rfl,hx.symm⟩
  have hlt:k<xs.length:=(List.getElem?_eq_some_iff.1 hxk).1
  have hce:xs[k]=x:=(List.getElem?_eq_some_iff.1 hxk).2
  have htk:(xs.take (k+1)).map OutR.cs=(xs.take k).map OutR.cs++[x.cs]:=by rw[List.take_succ_eq_append_getElem hlt,hce,List.map_append];rfl
  have hrl:((xs.take k).map OutR.cs).length=k:=by simp;omega
  refine W_padH (H2:=oH cap fuel depth (AccV 11 4 ((xs.take k).map OutR.cs))++[AccB ((xs.take k).map OutR.cs)]) ?_ ?_
  ·rcases hH with ⟨rfl,rfl⟩|⟨_,rfl⟩
   ·exact .inr (by rw[List.take_zero,List.map_nil,AccV_nil,AccB_nil])
   ·exact .inl rfl
  have hr1: ∀r∈(xs.take k).map OutR.cs,r.length=4:=cs4o
  generalize hrw:(xs.take k).map OutR.cs=rows at *
  have ha:=Acc_app (b:=11) (sz:=4) (rows:=rows) (new:=[x.cs]) (by simp)
  have hx4: ∀r∈[x.cs],r.length=4:=by intro r hr;simp at hr;subst hr;rfl
  have hlim:rows.length+[x.cs].length≤1000000:=by simp only[List.length_cons,List.length_nil];omega
  obtain ⟨x1,x2,x3,x4⟩:=x
  refine W_run tt_ok ?_
  skip
  refine Need_in (show noY (AccB rows::[_])=true from noY_accB rfl) ?_
  refine W_run tt_ok ?_
  repeat' ((conv=>whnf);(first
   |refine force_in ?_))
  refine Ch_r ?_
  conv=>whnf
  refine App_acc rows [OutR.cs ⟨x1,x2,x3,x4⟩] rfl rfl rfl rfl (by simp) hr1 hx4 hlim (Nat.le_of_ble_eq_true rfl) ?_
  skip
  conv=>whnf
  refine Rd_next (oH cap fuel depth (.msl 11 0 (rows.length+1) (rows.length+1) 4)++[some (.row ((rows++[OutR.cs ⟨x1,x2,x3,x4⟩]).flatten.map .d))]) (Wk_ren [0,1,2,3,4,5,6,7,8,9,10,13] rfl rfl (by refine⟨⟨rfl,rfl⟩,⟨rfl,rfl⟩,⟨rfl,rfl⟩,⟨rfl,rfl⟩,⟨rfl,rfl⟩,⟨by rw[renB_row];rfl,lowB_row _ _⟩,trivial⟩) (by repeat (first|exact trivial|refine⟨⟨rfl,rfl⟩,?_⟩)) (by show 11≤12;decide) (by show∀i,i<11→gOf [0,1,2,3,4,5,6,7,8,9,10,13] i=i;decide)) rfl (by simp[oH]) (.inr ⟨by omega,?_⟩)
  rw[htk,ha.1,ha.2]
  rfl
 ·rintro H' H1 hJ hS hln hY
  have hS:=hS rfl
  subst hS
  rw[List.length_map] at hJ
  have hpos:0<xs.length:=List.length_pos_iff.2 hne
  rcases hJ with ⟨h0,_⟩|⟨_,rfl⟩
  ·omega
  rw[List.take_length]
  have hnn:xs.map OutR.cs≠[]:=by simpa using hne
  rw[AccV_cons hnn,AccB_cons hnn]
  rw[patch_out]
  repeat' ((conv=>whnf);(first
   |refine finD (F:=[11]) (FV_tups ⟨FV_aggs ⟨FV_tab _ rfl rfl rfl cs4o,.same _ rfl,trivial⟩,.same _ rfl,trivial⟩)
   |refine Tri.pgS 2 13 4 hR rfl rfl rfl rfl (by decide) (by decide) (by decide) rfl rfl rfl ?_
   |refine finQ ?_))
 ·intro e H' H1 c _ h
  exact h.elim
end Go.Eng
namespace Go.Eng
open Go Go.Proofs
theorem W_cut {P:Program} {ro:Option Nat} {c d:Code} {Q:AEx→St→Prop} {s:St} (S1:St) (h1:W P ro c (fun e s'=>e=.normal∧Wk s' S1) s) (h2:W P ro d Q S1):W P ro (.seq c d) Q s:=
 W_seq (W_mono h1 fun e s' ⟨he,hk⟩=>by subst he;exact W_wk hk h2)
theorem Fn_ofW {P:Program} {tt:TT} (hT:TTok P tt) {f:FuncId} {fn:Func} {c:Code} (hf:P.funcs[f]? =some fn) (hb:fn.body=some c) (hnm:(fn.name== "runtime.NumGoroutine")=false) {n:Nat} (hn:fn.ntmps=n)
  {args:List AV} {r:AV} (hargs:Nat.ble args.length n=true) (h:W P none c (RetQ P tt fn 0 fun v H=>v=r∧H=[]) ⟨argEnv args 0,n,[],0,[]⟩):Fn P f args r:=by
 subst hn
 exact Tri_of_awp hT hf hb hnm hargs h
end Go.Eng
namespace Go.Eng
open Go Go.Proofs
def tOf (x:OutR):TOut:=⟨x.num,x.err,x.foc,x.acts⟩
def tRof (r:PRow):TRow:=⟨r.kind,r.prog,r.type,r.node,r.target,r.related,r.phase,r.err⟩
theorem tOf_map (l:List OutR):(l.map tOf).map TOut.cs=l.map OutR.cs:=by rw[List.map_map];rfl
theorem tRof_map (l:List PRow):(l.map tRof).map TRow.cs=l.map PRow.cs:=by rw[List.map_map];rfl
def i64b (n:Int):Bool:=decide (-9223372036854775808≤n)&&decide (n≤9223372036854775807)
theorem i64b_B {n:Int} (h:i64b n=true):i64B n:=by unfold i64b at h;simp only[Bool.and_eq_true,decide_eq_true_eq] at h;exact h
def okO (o:TOut):Bool:=i64b o.number&&(i64b o.err&&(i64b o.focus&&(o.acts.all (fun a=>i64b a.1&&i64b a.2)&&decide (o.acts.length≤1000))))
def okR (r:TRow):Bool:=i64b r.prog&&(i64b r.type&&(i64b r.node&&(i64b r.target&&(i64b r.related&&(i64b r.phase&&i64b r.err)))))
theorem okO_r {o:TOut} (h:okO o=true):rngO o:=by
 unfold okO at h
 simp only[Bool.and_eq_true,decide_eq_true_eq,List.all_eq_true] at h
 exact⟨i64b_B h.1,i64b_B h.2.1,i64b_B h.2.2.1,fun a ha=>⟨i64b_B (h.2.2.2.1 a ha).1,i64b_B (h.2.2.2.1 a ha).2⟩,h.2.2.2.2⟩
theorem okR_r {r:TRow} (h:okR r=true):rngR r:=by
 unfold okR at h
 simp only[Bool.and_eq_true] at h
 exact⟨i64b_B h.1,i64b_B h.2.1,i64b_B h.2.2.1,i64b_B h.2.2.2.1,i64b_B h.2.2.2.2.1,i64b_B h.2.2.2.2.2.1,i64b_B h.2.2.2.2.2.2⟩
theorem script_Play (n:Nat) (cap fuel depth:Int) (hc:okC cap fuel depth=true) (s:List UInt8) (hs:s.length≤100000) (l:List OpR) (k:Nat) (hl:scrG docS (plines s)=(l,k,0)) (s':PS) (xs:List OutR)
  (hg:outsG n (ps0 cap fuel depth) l=some (s',xs)) (hne:xs≠[]) (hll:l.length≤1000) (hlx:xs.length≤1000) (hrw:s'.rows.length≤90000) (ho:(xs.map tOf).all okO=true) (hr:(s'.rows.map tRof).all okR=true):
  Fn Tryz.prog 19 [aggD (cfgD cap fuel depth),.d (str s)] (.tup [.d (str (traceV (xs.map tOf) (s'.rows.map tRof))),.i 0]):=by
 have hS:=script_Script s hs
 rw[hl] at hS
 have hR:=run_Run n cap fuel depth hc l s' xs hg hne hll hlx hrw
 have hT:=tell_Trace (xs.map tOf) (s'.rows.map tRof) (fun o h=>okO_r (List.all_eq_true.1 ho o h)) (fun r h=>okR_r (List.all_eq_true.1 hr r h)) (by rw[List.length_map];exact hlx) (by rw[List.length_map];omega)
 unfold traceC at hT
 rw[tOf_map,tRof_map] at hT
 simp only at hS
 have e2:rowsP s'=s'.rows.map PRow.cs:=rfl
 rw[e2] at hR
 generalize xs.map OutR.cs=X at *
 generalize s'.rows.map PRow.cs=R at *
 generalize traceV (xs.map tOf) (s'.rows.map tRof)=v at *
 refine Fn_of tt_ok Tryz.func19 rfl (by decide) Tryz.ntmps19 rfl ?_
 repeat' ((conv=>whnf);(first
  |refine Fn.use (hS) rfl rfl ?_
  |refine Fn.use (hR) rfl rfl ?_
  |refine Fn.use (hT) rfl rfl ?_
  |refine fin0 rfl ?_))
 rfl
set_option maxHeartbeats 2000000 in
theorem live24_of {tx tl tb tz:List UInt8} {L3:List (List D)}
  (h1:Fn Tryz.prog 10 [.d (str [99,97,112,116,117,114,101,32,48,32,56,32,45,49])] (.tup [aggD [.int .i64 7,.int .i64 0,.int .i64 8,.int .i64 (-1),.bool true,.sl []],.i 0]))
  (h2:Fn Tryz.prog 10 [.d (str [112,114,111,103,114,97,109,32,102,111,99,117,115,32,51,59,115,116,111,112])] (.tup [aggD [.int .i64 6,.int .i64 0,.int .i64 0,.int .i64 0,.bool false,.sl [[.int .i64 0,.int .i64 3,.int .i64 0],[.int .i64 11,.int .i64 0,.int .i64 0]]],.i 0]))
  (h3:Fn Tryz.prog 10 [.d (str [102,111,99,117,115])] (.tup [aggD [.int .i64 0,.int .i64 0,.int .i64 0,.int .i64 0,.bool false,.sl []],.i 13]))
  (h4:Fn Tryz.prog 17 [.d (str ([109,97,107,101,32,49,32,49,10,105,110,115,101,114,116,32,48,32,49,32,45,49,10,102,111,99,117,115,32,49]++([10])))] (.tup [.d (.sl L3),.i 3,.i 0])) (hl:L3.length=3)
  (h5:Fn Tryz.prog 17 [.d (str [98,108,117,114,10,98,108,117,114,114,10])] (.tup [.d (.sl []),.i 1,.i 13]))
  (h6:Fn Tryz.prog 19 [aggD (cfgD 9 5 1),.d (str [109,97,107,101,32,49,32,49,10,105,110,115,101,114,116,32,48,32,49,32,45,49,10,102,111,99,117,115,32,49])] (.tup [.d (str tx),.i 0]))
  (htx:((⟨tx.toArray⟩:ByteArray).toList==(⟨(([49,32,48,32,48,32,48,58,48,10,48,32,48,32,48,32,48,58,48,10,48,32,48,32,49,32,48,58,49,10]++([114,101,115,117,108,116,32,48,32,49,32,48,32,48,10,114,101,115,117,108,116,32,50,32,48,32,48,32,48,10]++([114,101,115,117,108,116,32,49,48,32,48,32,49,32,48,10]))):List UInt8).toArray⟩:ByteArray).toList)=true)
  (h7:Fn Tryz.prog 12 [aggD [.int .i64 6,.int .i64 0,.int .i64 0,.int .i64 0,.bool false,.sl [[.int .i64 0,.int .i64 3,.int .i64 0],[.int .i64 11,.int .i64 0,.int .i64 0]]]] (.d (str tl)))
  (htl:((⟨tl.toArray⟩:ByteArray).toList==(⟨([112,114,111,103,114,97,109,32,102,111,99,117,115,32,51,59,115,116,111,112]:List UInt8).toArray⟩:ByteArray).toList)=true)
  (h8:Fn Tryz.prog 12 [aggD [.int .i64 13,.int .i64 0,.int .i64 0,.int .i64 0,.bool true,.sl []]] (.d (str tb)))
  (htb:((⟨tb.toArray⟩:ByteArray).toList==(⟨([98,97,99,107]:List UInt8).toArray⟩:ByteArray).toList)=true)
  (h9:Fn Tryz.prog 12 [aggD [.int .i64 13,.int .i64 1,.int .i64 0,.int .i64 0,.bool false,.sl []]] (.d (str tz)))
  (htz:((⟨tz.toArray⟩:ByteArray).toList==(⟨([]:List UInt8).toArray⟩:ByteArray).toList)=true):
  Fn Tryz.prog 9 [] (.b true):=by
 refine Fn_ofW tt_ok Tryz.func9 rfl (by decide) Tryz.ntmps9 rfl ?_
 refine W_cut ⟨[],126,[],0,[]⟩ ?_ ?_
 ·refine W_run tt_ok ?_
  repeat' ((conv=>whnf);(first
   |refine And.intro rfl (Wk_env (by repeat (first|exact trivial|refine⟨rfl,?_⟩)))))
 refine W_cut ⟨[(1,.ptr 0 0),(2,.i 0)],126,[some (.row [.i 7,.i 0,.i 8,.i (-1),.b true,.d (.sl [])])],0,[]⟩ ?_ ?_
 ·refine W_run tt_ok ?_
  repeat' ((conv=>whnf);(first
   |refine And.intro rfl (Wk_env (by repeat (first|exact trivial|refine⟨rfl,?_⟩)))
   |refine Fn.use (h1) rfl rfl ?_))
 refine W_cut ⟨[(1,.ptr 0 0),(2,.i 0),(3,.ptr 1 0),(4,.i 0)],126,[some (.row [.i 7,.i 0,.i 8,.i (-1),.b true,.d (.sl [])]),some (.row [.i 6,.i 0,.i 0,.i 0,.b false,.d (.sl [[.int .i64 0,.int .i64 3,.int .i64 0],[.int .i64 11,.int .i64 0,.int .i64 0]])])],0,[]⟩ ?_ ?_
 ·refine W_run tt_ok ?_
  repeat' ((conv=>whnf);(first
   |refine And.intro rfl (Wk_H [some (.row [.i 7,.i 0,.i 8,.i (-1),.b true,.d (.sl [])]),some (.row [.i 6,.i 0,.i 0,.i 0,.b false,.d (.sl [[.int .i64 0,.int .i64 3,.int .i64 0],[.int .i64 11,.int .i64 0,.int .i64 0]])])] (by kernel_rfl) (Wk_env (by repeat (first|exact trivial|refine⟨rfl,?_⟩))))
   |refine Fn.use (h2) rfl rfl ?_))
 refine W_cut ⟨[(1,.ptr 0 0),(2,.i 0),(3,.ptr 1 0),(4,.i 0),(6,.i 13)],126,[some (.row [.i 7,.i 0,.i 8,.i (-1),.b true,.d (.sl [])]),some (.row [.i 6,.i 0,.i 0,.i 0,.b false,.d (.sl [[.int .i64 0,.int .i64 3,.int .i64 0],[.int .i64 11,.int .i64 0,.int .i64 0]])]),some (.row [.i 0,.i 0,.i 0,.i 0,.b false,.d (.sl [])])],0,[]⟩ ?_ ?_
 ·refine W_run tt_ok ?_
  repeat' ((conv=>whnf);(first
   |refine And.intro rfl (Wk_H [some (.row [.i 7,.i 0,.i 8,.i (-1),.b true,.d (.sl [])]),some (.row [.i 6,.i 0,.i 0,.i 0,.b false,.d (.sl [[.int .i64 0,.int .i64 3,.int .i64 0],[.int .i64 11,.int .i64 0,.int .i64 0]])]),some (.row [.i 0,.i 0,.i 0,.i 0,.b false,.d (.sl [])])] (by kernel_rfl) (Wk_env (by repeat (first|exact trivial|refine⟨rfl,?_⟩))))
   |refine Fn.use (h3) rfl rfl ?_))
 refine W_cut ⟨[(1,.ptr 0 0),(2,.i 0),(3,.ptr 1 0),(4,.i 0),(6,.i 13),(7,.d (.sl L3)),(8,.i 3),(9,.i 0)],126,[some (.row [.i 7,.i 0,.i 8,.i (-1),.b true,.d (.sl [])]),some (.row [.i 6,.i 0,.i 0,.i 0,.b false,.d (.sl [[.int .i64 0,.int .i64 3,.int .i64 0],[.int .i64 11,.int .i64 0,.int .i64 0]])]),some (.row [.i 0,.i 0,.i 0,.i 0,.b false,.d (.sl [])])],0,[]⟩ ?_ ?_
 ·refine W_run tt_ok ?_
  repeat' ((conv=>whnf);(first
   |refine And.intro rfl (Wk_env (by repeat (first|exact trivial|refine⟨rfl,?_⟩)))
   |refine Fn.use (h4) rfl rfl ?_))
 refine W_cut ⟨[(1,.ptr 0 0),(2,.i 0),(3,.ptr 1 0),(4,.i 0),(6,.i 13),(7,.d (.sl L3)),(8,.i 3),(9,.i 0),(11,.i 1),(12,.i 13)],126,[some (.row [.i 7,.i 0,.i 8,.i (-1),.b true,.d (.sl [])]),some (.row [.i 6,.i 0,.i 0,.i 0,.b false,.d (.sl [[.int .i64 0,.int .i64 3,.int .i64 0],[.int .i64 11,.int .i64 0,.int .i64 0]])]),some (.row [.i 0,.i 0,.i 0,.i 0,.b false,.d (.sl [])])],0,[]⟩ ?_ ?_
 ·refine W_run tt_ok ?_
  repeat' ((conv=>whnf);(first
   |refine And.intro rfl (Wk_env (by repeat (first|exact trivial|refine⟨rfl,?_⟩)))
   |refine Fn.use (h5) rfl rfl ?_))
 refine W_cut ⟨[(1,.ptr 0 0),(2,.i 0),(3,.ptr 1 0),(4,.i 0),(6,.i 13),(7,.d (.sl L3)),(8,.i 3),(9,.i 0),(11,.i 1),(12,.i 13),(13,.d (str tx)),(14,.i 0)],126,[some (.row [.i 7,.i 0,.i 8,.i (-1),.b true,.d (.sl [])]),some (.row [.i 6,.i 0,.i 0,.i 0,.b false,.d (.sl [[.int .i64 0,.int .i64 3,.int .i64 0],[.int .i64 11,.int .i64 0,.int .i64 0]])]),some (.row [.i 0,.i 0,.i 0,.i 0,.b false,.d (.sl [])])],0,[]⟩ ?_ ?_
 ·try dsimp only[List.append]
  refine W_run tt_ok ?_
  repeat' ((conv=>whnf);(first
   |refine And.intro rfl (Wk_env (by repeat (first|exact trivial|refine⟨rfl,?_⟩)))
   |refine Fn.use (h6) rfl rfl ?_))
 clear h1 h2 h3 h4 h5 h6
 refine W_cut ⟨[(0,.b ((⟨tz.toArray⟩:ByteArray).toList==(⟨([]:List UInt8).toArray⟩:ByteArray).toList))],126,[],0,[]⟩ ?_ ?_
 ·dsimp only[List.append]
  refine W_run tt_ok ?_
  repeat' ((conv=>whnf);(first
   |refine And.intro rfl (Wk_ren [] rfl rfl trivial (by repeat (first|exact trivial|refine⟨⟨rfl,rfl⟩,?_⟩)) (by omega) (by omega))
   |refine Br_true htx ?_
   |refine Br_true htl ?_
   |refine Br_true htb ?_
   |refine Br_true (beqT (by omega)) ?_
   |refine Len_in (fun hlen=>?_)
   |refine Fn.use (h7) rfl rfl ?_
   |refine Tri.wkA (Fn.use h8 rfl rfl ?_) ⟨FV_aggs ⟨.same _ rfl,.same _ rfl,.same _ rfl,.same _ rfl,.same _ rfl,.nsl,trivial⟩,trivial⟩
   |refine Tri.wkA (Fn.use h9 rfl rfl ?_) ⟨FV_aggs ⟨.same _ rfl,.same _ rfl,.same _ rfl,.same _ rfl,.same _ rfl,.nsl,trivial⟩,trivial⟩))
 rw[htz]
 refine W_run tt_ok ?_
 repeat' ((conv=>whnf);(first
  |refine fin0 rfl ?_))
 rfl
def ops24:List OpR:=[⟨0,1,1,0,false,[]⟩,⟨2,0,1,-1,false,[]⟩,⟨10,1,0,0,false,[]⟩]
def w24:PS×List OutR:=match outsG 4 (ps0 9 5 1) ops24 with
 |some q=>q
 |none=>(ps0 0 0 0,[])
theorem w24_eq:outsG 4 (ps0 9 5 1) ops24=some (w24.1,w24.2):=by kernel_rfl
theorem w24_len:(w24.2.map OutR.cs).length=3:=by kernel_rfl
theorem w24_rows:w24.1.rows.length=3:=by kernel_rfl
theorem w24_o:(w24.2.map tOf).all okO=true:=by kernel_rfl
theorem w24_r:(w24.1.rows.map tRof).all okR=true:=by kernel_rfl
theorem w24_tr:traceV (w24.2.map tOf) (w24.1.rows.map tRof)=([49,32,48,32,48,32,48,58,48,10,48,32,48,32,48,32,48,58,48,10,48,32,48,32,49,32,48,58,49,10]++([114,101,115,117,108,116,32,48,32,49,32,48,32,48,10,114,101,115,117,108,116,32,50,32,48,32,48,32,48,10]++([114,101,115,117,108,116,32,49,48,32,48,32,49,32,48,10]))):=by kernel_rfl
theorem d1:docS [99,97,112,116,117,114,101,32,48,32,56,32,45,49]=(⟨7,0,8,-1,true,[]⟩,0):=by kernel_rfl
theorem d2:docS [112,114,111,103,114,97,109,32,102,111,99,117,115,32,51,59,115,116,111,112]=(⟨6,0,0,0,false,[⟨0,3,0⟩,⟨11,0,0⟩]⟩,0):=by kernel_rfl
theorem d3:docS [102,111,99,117,115]=(⟨0,0,0,0,false,[]⟩,13):=by kernel_rfl
theorem d4:scrG docS (plines ([109,97,107,101,32,49,32,49,10,105,110,115,101,114,116,32,48,32,49,32,45,49,10,102,111,99,117,115,32,49]++([10])))=(ops24,3,0):=by kernel_rfl
theorem d5:scrG docS (plines [98,108,117,114,10,98,108,117,114,114,10])=([],1,13):=by kernel_rfl
theorem d6:scrG docS (plines [109,97,107,101,32,49,32,49,10,105,110,115,101,114,116,32,48,32,49,32,45,49,10,102,111,99,117,115,32,49])=(ops24,3,0):=by kernel_rfl
theorem d7:lnV ⟨6,0,0,0,false,[⟨0,3,0⟩,⟨11,0,0⟩]⟩=[112,114,111,103,114,97,109,32,102,111,99,117,115,32,51,59,115,116,111,112]:=by kernel_rfl
theorem d8:lnV ⟨13,0,0,0,true,[]⟩=[98,97,99,107]:=by kernel_rfl
theorem d9:lnV ⟨13,1,0,0,false,[]⟩=[]:=by kernel_rfl
theorem law24_live:Fn Tryz.prog 9 [] (.b true):=by
 have hlen:w24.2.length=3:=by have:=w24_len;rwa [List.length_map] at this
 have b1:i64B 6∧i64B 13∧i64B 0∧i64B 1:=by unfold i64B;omega
 have h1:=script_Parse [99,97,112,116,117,114,101,32,48,32,56,32,45,49] (by decide)
 have h2:=script_Parse [112,114,111,103,114,97,109,32,102,111,99,117,115,32,51,59,115,116,111,112] (by decide)
 have h3:=script_Parse [102,111,99,117,115] (by decide)
 have h4:=script_Script ([109,97,107,101,32,49,32,49,10,105,110,115,101,114,116,32,48,32,49,32,45,49,10,102,111,99,117,115,32,49]++([10])) (by decide)
 have h5:=script_Script [98,108,117,114,10,98,108,117,114,114,10] (by decide)
 have h6:=script_Play 4 9 5 1 rfl [109,97,107,101,32,49,32,49,10,105,110,115,101,114,116,32,48,32,49,32,45,49,10,102,111,99,117,115,32,49] (by decide) ops24 3 d6 w24.1 w24.2 w24_eq (by intro h;rw[h] at hlen;simp at hlen) (by decide) (by omega) (by rw[w24_rows];decide) w24_o w24_r
 have h7:=script_Line ⟨6,0,0,0,false,[⟨0,3,0⟩,⟨11,0,0⟩]⟩ b1.2.2.1 b1.2.2.1 b1.2.2.1
 have h8:=script_Line ⟨13,0,0,0,true,[]⟩ b1.2.2.1 b1.2.2.1 b1.2.2.1
 have h9:=script_Line ⟨13,1,0,0,false,[]⟩ b1.2.2.2 b1.2.2.1 b1.2.2.1
 rw[d1] at h1
 rw[d2] at h2
 rw[d3] at h3
 rw[d4] at h4
 rw[d5] at h5
 refine live24_of h1 h2 h3 h4 rfl h5 h6 ?_ h7 ?_ h8 ?_ h9 ?_
 ·rw[str_beq,w24_tr];exact decide_eq_true rfl
 ·rw[str_beq,d7];exact decide_eq_true rfl
 ·rw[str_beq,d8];exact decide_eq_true rfl
 ·rw[str_beq,d9];exact decide_eq_true rfl
end Go.Eng
namespace Go.Eng
open Go Go.Proofs
theorem ref21_SmallS (o:OpR):Fn Tryz.prog 8 [aggD o.cs] (.b (decide ((o.p.length:Int)≤20))):=by
 obtain ⟨d,a,b,c,fl,p⟩:=o
 refine Fn_of tt_ok Tryz.func8 rfl (by decide) Tryz.ntmps8 rfl ?_
 have hpl:(p.map Step.cs).length=p.length:=by simp
 repeat' ((conv=>whnf);(first
  |refine Len_in (fun hlen=>?_)
  |refine fin0 rfl ?_))
 simp only[AV.d.injEq,D.bool.injEq,hpl]
theorem docS_p (s:List UInt8):(docS s).1.p.length≤16:=by
 by_cases h:(docS s).2=0
 ·obtain ⟨h1,_⟩:=doc_lin h
  by_cases h6:(docS s).1.d=6
  ·exact(checkB_iff.1 (lin_prog h1 h6).2).1
  ·obtain ⟨k,_,_,_,_,hp,_⟩:=lin_kind h1 h6
   rw[hp];simp
 ·rw[docS_bad h];simp[op0]
theorem docS_b (s:List UInt8):i64B (docS s).1.a∧i64B (docS s).1.b∧i64B (docS s).1.c:=by
 rw[← par_doc fdL_ok]
 have h0:i64B 0:=by unfold i64B;omega
 unfold parS
 split
 ·exact rd_bd s
 ·exact⟨h0,h0,h0⟩
theorem scr_p (L:List (List UInt8)): ∀o∈(scrG docS L).1,o.p.length≤16:=by
 induction L with
 |nil=>intro o h;simp[scrG] at h
 |cons l r ih=>
  intro o h
  unfold scrG at h
  split at h
  ·split at h
   ·rcases List.mem_cons.1 h with rfl|h
    ·exact docS_p l
    ·exact ih o h
   ·simp at h
  ·simp at h
theorem lnV_len (o:OpR) (ha:i64B o.a) (hb:i64B o.b) (hc:i64B o.c):(lnV o).length≤2000:=by
 rw[ln_doc]
 split
 ·exact docT_len o ha hb hc
 ·simp
theorem ln_docS {o:OpR} (h:lnV o≠[]):docS (lnV o)=(o,0):=by rw[← par_doc fdL_ok];exact ln_back fdL_ok h
theorem doc_ln {s:List UInt8} (h:(docS s).2=0):lnV (docS s).1=s:=by
 rw[← par_doc fdL_ok] at *
 exact par_back fdL_ok h
theorem law24_ScriptLines (o:OpR) (ha:i64B o.a) (hb:i64B o.b) (hc:i64B o.c) (s:List UInt8):Fn Tryz.prog 3 [aggD o.cs,.d (str s)] (.b true):=by
 have hL:=law24_live
 have hSm:=ref21_SmallS o
 have hsz:(⟨s.toArray⟩:ByteArray).size=s.length:=str_size s
 by_cases hp:(o.p.length:Int)≤20
 rotate_left
 ·rw[decide_eq_false hp] at hSm
  obtain ⟨d,a,b,c,fl,p⟩:=o
  refine Fn_of tt_ok Tryz.func3 rfl (by decide) Tryz.ntmps3 rfl ?_
  repeat' ((conv=>whnf);(first
   |refine Fn.use (hSm) rfl rfl ?_
   |refine Fn.use (hL) rfl rfl ?_
   |refine fin0 rfl ?_))
  all_goals rfl
 rw[decide_eq_true hp] at hSm
 by_cases hl:s.length≤400
 rotate_left
 ·have hbr:decide (((⟨s.toArray⟩:ByteArray).size:Int)>400)=true:=by rw[hsz];simp;omega
  obtain ⟨d,a,b,c,fl,p⟩:=o
  refine Fn_of tt_ok Tryz.func3 rfl (by decide) Tryz.ntmps3 rfl ?_
  repeat' ((conv=>whnf);(first
   |refine Br_true hbr ?_
   |refine Len_in (fun hlen=>?_)
   |refine Fn.use (hSm) rfl rfl ?_
   |refine Fn.use (hL) rfl rfl ?_
   |refine fin0 rfl ?_))
  all_goals rfl
 have hbr:decide (((⟨s.toArray⟩:ByteArray).size:Int)>400)=false:=by rw[hsz];simp;omega
 have h1:=script_Parse s (by omega)
 have h2:=ref24_Parse s (by omega)
 have h3:=law24_own o (by omega)
 have h4:=script_Line o ha hb hc
 have h5:=ref24_Line o ha hb hc
 have h6:=law24_told (docS s).1 (Nat.le_trans (docS_p s) (by omega))
 have h7:=ref24_Same (docS s).1 (docS s).1
 rw[decide_eq_true rfl] at h7
 have hq:=str_beq (lnV o) (lnV o)
 rw[decide_eq_true rfl] at hq
 generalize docS s=q at *
 obtain ⟨⟨d2,a2,b2,c2,f2,p2⟩,n⟩:=q
 generalize lnV o=v at *
 obtain ⟨d,a,b,c,fl,p⟩:=o
 simp only at *
 refine Fn_of tt_ok Tryz.func3 rfl (by decide) Tryz.ntmps3 rfl ?_
 repeat' ((conv=>whnf);(first
  |refine Br_false hbr ?_
  |refine Br_true hq ?_
  |refine Br_true (beqT (by omega)) ?_
  |refine Len_in (fun hlen=>?_)
  |refine W_draw 0 tt_ok mixed (by kernel_rfl) ?_
  |refine Fn.use (hSm) rfl rfl ?_
  |refine Fn.use (h1) rfl rfl ?_
  |refine Fn.use (h2) rfl rfl ?_
  |refine CallF_in (h3) rfl rfl ?_
  |refine CallF_in (h4) rfl rfl ?_
  |refine CallF_in (h5) rfl rfl ?_
  |refine CallF_in (h6) rfl rfl ?_
  |refine CallF_in (h7) rfl rfl ?_
  |refine CallF_in (hL) rfl rfl ?_
  |refine fin0 rfl ?_))
 all_goals rfl
theorem law24_ScriptReads (s:List UInt8):Fn Tryz.prog 4 [.d (str s)] (.b true):=by
 have hL:=law24_live
 have hsz:(⟨s.toArray⟩:ByteArray).size=s.length:=str_size s
 by_cases hl:s.length≤1500
 rotate_left
 ·have hbr:decide (((⟨s.toArray⟩:ByteArray).size:Int)>1500)=true:=by rw[hsz];simp;omega
  refine Fn_of tt_ok Tryz.func4 rfl (by decide) Tryz.ntmps4 rfl ?_
  repeat' ((conv=>whnf);(first
   |refine Br_true hbr ?_
   |refine Len_in (fun hlen=>?_)
   |refine Fn.use (hL) rfl rfl ?_
   |refine fin0 rfl ?_))
  all_goals rfl
 have hbr:decide (((⟨s.toArray⟩:ByteArray).size:Int)>1500)=false:=by rw[hsz];simp;omega
 have h1:=script_Script s (by omega)
 have h2:=ref24_Script s (by omega)
 have hp:=scr_p (plines s)
 generalize scrG docS (plines s)=q at *
 obtain ⟨l,k,e⟩:=q
 simp only at *
 have hcl:(l.map OpR.cs).length=l.length:=by simp
 refine Fn_of tt_ok Tryz.func4 rfl (by decide) Tryz.ntmps4 rfl ?_
 repeat' ((conv=>whnf);(first
  |refine Br_false hbr ?_
  |refine Br_false (bneF (by omega)) ?_
  |refine Len_in (fun hlen=>?_)
  |refine Fn.use (h1) rfl rfl ?_
  |refine Fn.use (h2) rfl rfl ?_))
 clear h1 h2
 refine W_loop (fun μ st=> ∃(j:Nat),j≤l.length∧μ=l.length-j∧st=⟨[(3,.d (opsD l)),(6,.d (opsD l)),(9,.i j)],59,[],0,[]⟩) l.length ⟨_,?_,0,by omega,by omega,rfl⟩ ?_
 ·exact Wk_env (by repeat (first|exact trivial|refine⟨rfl,?_⟩))
 rintro μ s1 ⟨j,hj,rfl,rfl⟩
 refine W_run tt_ok ?_
 refine Len_in (fun hlen=>?_)
 by_cases hlt:j<l.length
 ·refine Br_true (decide_eq_true (by omega)) ?_
  have hi:(l.map OpR.cs)[(j:Int).toNat]? =some (l[j]).cs:=by simp[hlt]
  have hpj:=hp _ (List.getElem_mem hlt)
  generalize l[j]=x at *
  have h6:=law24_told x (by omega)
  have h7:=ref24_Same x x
  rw[decide_eq_true rfl] at h7
  obtain ⟨d,a,b,c,fl,p⟩:=x
  repeat' ((conv=>whnf);(first
   |refine W_draw 0 tt_ok mixed (by kernel_rfl) ?_
   |refine Idx_in _ hi (by omega) rfl ?_
   |refine CallF_in (h6) rfl rfl ?_
   |refine CallF_in (h7) rfl rfl ?_
   |refine Back_in _ _ ⟨j+1,by omega,rfl,rfl⟩ (by omega) (Wk_env (by repeat (first|exact trivial|refine⟨rfl,?_⟩)))
   |refine ArK_in (wrap_i64 (by omega) (by omega)) ?_))
 ·refine Br_false (decide_eq_false (by omega)) ?_
  repeat' ((conv=>whnf);(first
   |refine Fn.use (hL) rfl rfl ?_
   |refine fin0 rfl ?_))
  all_goals rfl
theorem law24_ScriptBack (o:OpR) (ha:i64B o.a) (hb:i64B o.b) (hc:i64B o.c) (s:List UInt8):Fn Tryz.prog 5 [aggD o.cs,.d (str s)] (.b true):=by
 have hL:=law24_live
 have hSm:=ref21_SmallS o
 have hsz:(⟨s.toArray⟩:ByteArray).size=s.length:=str_size s
 by_cases hp:(o.p.length:Int)≤20
 rotate_left
 ·rw[decide_eq_false hp] at hSm
  obtain ⟨d,a,b,c,fl,p⟩:=o
  refine Fn_of tt_ok Tryz.func5 rfl (by decide) Tryz.ntmps5 rfl ?_
  repeat' ((conv=>whnf);(first
   |refine Fn.use (hSm) rfl rfl ?_
   |refine Fn.use (hL) rfl rfl ?_
   |refine fin0 rfl ?_))
  all_goals rfl
 rw[decide_eq_true hp] at hSm
 by_cases hl:s.length≤400
 rotate_left
 ·have hbr:decide (((⟨s.toArray⟩:ByteArray).size:Int)>400)=true:=by rw[hsz];simp;omega
  obtain ⟨d,a,b,c,fl,p⟩:=o
  refine Fn_of tt_ok Tryz.func5 rfl (by decide) Tryz.ntmps5 rfl ?_
  repeat' ((conv=>whnf);(first
   |refine Br_true hbr ?_
   |refine Len_in (fun hlen=>?_)
   |refine Fn.use (hSm) rfl rfl ?_
   |refine Fn.use (hL) rfl rfl ?_
   |refine fin0 rfl ?_))
  all_goals rfl
 have hbr:decide (((⟨s.toArray⟩:ByteArray).size:Int)>400)=false:=by rw[hsz];simp;omega
 have h1:=script_Parse s (by omega)
 have hbd:=docS_b s
 have h2:=script_Line (docS s).1 hbd.1 hbd.2.1 hbd.2.2
 have h3:=law24_own o (by omega)
 have h4:=script_Line o ha hb hc
 have h5:=script_Parse (lnV o) (Nat.le_trans (lnV_len o ha hb hc) (by omega))
 have h6:=law24_told o (by omega)
 have h7:=ref24_Same o o
 rw[decide_eq_true rfl] at h7
 have hback:=ln_docS (o:=o)
 have hdl:=doc_ln (s:=s)
 have hqe:=str_beq (lnV (docS s).1) s
 have hnz:=str_beq (lnV o) []
 clear hbd
 generalize lnV (docS s).1=w at *
 generalize docS s=q at *
 obtain ⟨⟨d2,a2,b2,c2,f2,p2⟩,n⟩:=q
 simp only at *
 generalize lnV o=v at *
 by_cases hv:v=[]
 ·rw[decide_eq_true hv] at hnz
  have hnz':(!((⟨v.toArray⟩:ByteArray).toList==(⟨([]:List UInt8).toArray⟩:ByteArray).toList))=false:=by rw[hnz];rfl
  clear h5 hback hv
  obtain ⟨d,a,b,c,fl,p⟩:=o
  by_cases hn:n=0
  ·have hne:(n != 0)=false:=by simp[hn]
   have he:=hdl hn
   rw[decide_eq_true he] at hqe
   clear hdl he
   refine Fn_of tt_ok Tryz.func5 rfl (by decide) Tryz.ntmps5 rfl ?_
   repeat' ((conv=>whnf);(first
    |refine Br_false hbr ?_
    |refine Br_true hqe ?_
    |refine Br_false hnz' ?_
    |refine Br_false (by assumption) ?_
    |refine Len_in (fun hlen=>?_)
    |refine Fn.use (hSm) rfl rfl ?_
    |refine Fn.use (h1) rfl rfl ?_
    |refine Fn.use (h2) rfl rfl ?_
    |refine Fn.use (h3) rfl rfl ?_
    |refine Fn.use (h4) rfl rfl ?_
    |refine Fn.use (hL) rfl rfl ?_
    |refine fin0 rfl ?_))
   all_goals rfl
  ·have hne:(n != 0)=true:=by simp[hn]
   clear hdl hqe
   refine Fn_of tt_ok Tryz.func5 rfl (by decide) Tryz.ntmps5 rfl ?_
   repeat' ((conv=>whnf);(first
    |refine Br_false hbr ?_
    |refine Br_false hnz' ?_
    |refine Br_true (by assumption) ?_
    |refine Len_in (fun hlen=>?_)
    |refine Fn.use (hSm) rfl rfl ?_
    |refine Fn.use (h1) rfl rfl ?_
    |refine Fn.use (h3) rfl rfl ?_
    |refine Fn.use (h4) rfl rfl ?_
    |refine Fn.use (hL) rfl rfl ?_
    |refine fin0 rfl ?_))
   all_goals rfl
 ·rw[decide_eq_false hv] at hnz
  have hnz':(!((⟨v.toArray⟩:ByteArray).toList==(⟨([]:List UInt8).toArray⟩:ByteArray).toList))=true:=by rw[hnz];rfl
  rw[hback hv] at h5
  clear hback hv
  obtain ⟨d,a,b,c,fl,p⟩:=o
  by_cases hn:n=0
  ·have hne:(n != 0)=false:=by simp[hn]
   have he:=hdl hn
   rw[decide_eq_true he] at hqe
   clear hdl he
   refine Fn_of tt_ok Tryz.func5 rfl (by decide) Tryz.ntmps5 rfl ?_
   repeat' ((conv=>whnf);(first
    |refine Br_false hbr ?_
    |refine Br_true hqe ?_
    |refine Br_true hnz' ?_
    |refine Br_false (by assumption) ?_
    |refine Len_in (fun hlen=>?_)
    |refine W_draw 0 tt_ok mixed (by kernel_rfl) ?_
    |refine Fn.use (hSm) rfl rfl ?_
    |refine Fn.use (h1) rfl rfl ?_
    |refine Fn.use (h2) rfl rfl ?_
    |refine Fn.use (h3) rfl rfl ?_
    |refine Fn.use (h4) rfl rfl ?_
    |refine Fn.use (h5) rfl rfl ?_
    |refine CallF_in (h6) rfl rfl ?_
    |refine CallF_in (h7) rfl rfl ?_
    |refine Fn.use (hL) rfl rfl ?_
    |refine fin0 rfl ?_))
   all_goals rfl
  ·have hne:(n != 0)=true:=by simp[hn]
   clear hdl hqe
   refine Fn_of tt_ok Tryz.func5 rfl (by decide) Tryz.ntmps5 rfl ?_
   repeat' ((conv=>whnf);(first
    |refine Br_false hbr ?_
    |refine Br_true hnz' ?_
    |refine Br_true (by assumption) ?_
    |refine Len_in (fun hlen=>?_)
    |refine W_draw 0 tt_ok mixed (by kernel_rfl) ?_
    |refine Fn.use (hSm) rfl rfl ?_
    |refine Fn.use (h1) rfl rfl ?_
    |refine Fn.use (h3) rfl rfl ?_
    |refine Fn.use (h4) rfl rfl ?_
    |refine Fn.use (h5) rfl rfl ?_
    |refine CallF_in (h6) rfl rfl ?_
    |refine CallF_in (h7) rfl rfl ?_
    |refine Fn.use (hL) rfl rfl ?_
    |refine fin0 rfl ?_))
   all_goals rfl
end Go.Eng
namespace Go.Eng
open Go Go.Proofs
theorem scr_len (L:List (List UInt8)):(scrG docS L).2.1≤L.length:=by
 induction L with
 |nil=>simp[scrG]
 |cons l r ih=>
  unfold scrG
  split
  ·split
   ·simp only[List.length_cons];omega
   ·simp only[List.length_cons];omega
  ·simp
theorem scr_writtenS {os:List OpR} (h: ∀o∈os,lnV o≠[]):scrG docS (plines (endL (os.map lnV)))=(os,os.length,0):=by
 have:=scr_written fdL_ok h
 rwa [show parS fdL=docS from funext fun s=>par_doc fdL_ok s] at this
theorem law24_ScriptJoined (a b:List UInt8):Fn Tryz.prog 6 [.d (str a),.d (str b)] (.b true):=by
 have hL:=law24_live
 have hsa:(⟨a.toArray⟩:ByteArray).size=a.length:=str_size a
 have hsb:(⟨b.toArray⟩:ByteArray).size=b.length:=str_size b
 have hqa:=str_beq a []
 have hqb:=str_beq b []
 by_cases hal:a.length≤700
 rotate_left
 ·have b1:decide (((⟨a.toArray⟩:ByteArray).size:Int)>700)=true:=by rw[hsa];simp;omega
  refine Fn_of tt_ok Tryz.func6 rfl (by decide) Tryz.ntmps6 rfl ?_
  repeat' ((conv=>whnf);(first
   |refine Br_true b1 ?_
   |refine Len_in (fun hlen=>?_)
   |refine Fn.use (hL) rfl rfl ?_
   |refine fin0 rfl ?_))
  all_goals rfl
 have b1:decide (((⟨a.toArray⟩:ByteArray).size:Int)>700)=false:=by rw[hsa];simp;omega
 by_cases hbl:b.length≤700
 rotate_left
 ·have b2:decide (((⟨b.toArray⟩:ByteArray).size:Int)>700)=true:=by rw[hsb];simp;omega
  refine Fn_of tt_ok Tryz.func6 rfl (by decide) Tryz.ntmps6 rfl ?_
  repeat' ((conv=>whnf);(first
   |refine Br_false b1 ?_
   |refine Br_true b2 ?_
   |refine Len_in (fun hlen=>?_)
   |refine Fn.use (hL) rfl rfl ?_
   |refine fin0 rfl ?_))
  all_goals rfl
 have b2:decide (((⟨b.toArray⟩:ByteArray).size:Int)>700)=false:=by rw[hsb];simp;omega
 by_cases ha0:a=[]
 ·rw[decide_eq_true ha0] at hqa
  refine Fn_of tt_ok Tryz.func6 rfl (by decide) Tryz.ntmps6 rfl ?_
  repeat' ((conv=>whnf);(first
   |refine Br_false b1 ?_
   |refine Br_false b2 ?_
   |refine Br_true hqa ?_
   |refine Len_in (fun hlen=>?_)
   |refine Fn.use (hL) rfl rfl ?_
   |refine fin0 rfl ?_))
  all_goals rfl
 rw[decide_eq_false ha0] at hqa
 by_cases hb0:b=[]
 ·rw[decide_eq_true hb0] at hqb
  refine Fn_of tt_ok Tryz.func6 rfl (by decide) Tryz.ntmps6 rfl ?_
  repeat' ((conv=>whnf);(first
   |refine Br_false b1 ?_
   |refine Br_false b2 ?_
   |refine Br_false hqa ?_
   |refine Br_true hqb ?_
   |refine Len_in (fun hlen=>?_)
   |refine Fn.use (hL) rfl rfl ?_
   |refine fin0 rfl ?_))
  all_goals rfl
 rw[decide_eq_false hb0] at hqb
 have hap:0<a.length:=List.length_pos_iff.2 ha0
 have hby:(⟨a.toArray⟩:ByteArray).data.toList[(((⟨a.toArray⟩:ByteArray).size:Int)-1).toNat]? =some (a.getLast ha0):=by
  rw[hsa,show ((a.length:Int)-1).toNat=a.length-1 by omega]
  show a[a.length-1]? =_
  rw[List.getLast_eq_getElem,List.getElem?_eq_getElem (by omega)]
 have hgl:a.getLast? =some (a.getLast ha0):=List.getLast?_eq_some_getLast ha0
 generalize a.getLast ha0=c at *
 by_cases hc:c=10
 rotate_left
 ·have b3:((c.toNat:Int) != 10)=true:=by
   simp only[bne_iff_ne,ne_eq]
   intro h
   exact hc (UInt8.toNat_inj.1 (by show c.toNat=10;omega))
  refine Fn_of tt_ok Tryz.func6 rfl (by decide) Tryz.ntmps6 rfl ?_
  repeat' ((conv=>whnf);(first
   |refine Br_false b1 ?_
   |refine Br_false b2 ?_
   |refine Br_false hqa ?_
   |refine Br_false hqb ?_
   |refine Br_true b3 ?_
   |refine Len_in (fun hlen=>?_)
   |refine Byte_in _ hby (by omega) ?_
   |refine Fn.use (hL) rfl rfl ?_
   |refine fin0 rfl ?_
   |refine ArK_in (wrap_i64 (by omega) (by omega)) ?_))
  all_goals rfl
 subst hc
 have b3:(((10:UInt8).toNat:Int) != 10)=false:=by decide
 have h1:=script_Script a (by omega)
 have h2:=script_Script b (by omega)
 have h3:=script_Script (a++b) (by simp;omega)
 rw[scr_joined docS hgl hb0] at h3
 have hab:str (a++b)=D.str ((⟨a.toArray⟩:ByteArray)++(⟨b.toArray⟩:ByteArray)):=by rw[str_app]
 rw[hab] at h3
 have hp1:=scr_p (plines a)
 have hp2:=scr_p (plines b)
 have he1:=scr_err (ps:=docS) (ls:=plines a)
 have he2:=scr_err (ps:=docS) (ls:=plines b)
 have hn1:=scr_len (plines a)
 have hn2:=scr_len (plines b)
 have hk1:=plines_len a
 have hk2:=plines_len b
 generalize scrG docS (plines a)=q1 at *
 generalize scrG docS (plines b)=q2 at *
 obtain ⟨l1,n1,e1⟩:=q1
 obtain ⟨l2,n2,e2⟩:=q2
 simp only at *
 have hcl1:(l1.map OpR.cs).length=l1.length:=by simp
 have hcl2:(l2.map OpR.cs).length=l2.length:=by simp
 by_cases g1:e1≠0
 ·rw[if_pos g1] at h3
  simp only at h3
  have b4:(e1 != 0)=true:=by simp[g1]
  refine Fn_of tt_ok Tryz.func6 rfl (by decide) Tryz.ntmps6 rfl ?_
  repeat' ((conv=>whnf);(first
   |refine Br_false b1 ?_
   |refine Br_false b2 ?_
   |refine Br_false hqa ?_
   |refine Br_false hqb ?_
   |refine Br_true (by assumption) ?_
   |refine Br_true (beqT (by omega)) ?_
   |refine Len_in (fun hlen=>?_)
   |refine Byte_in _ hby (by omega) ?_
   |(refine Need_in (by unfold LB;simp[ByteArray.size];omega) ?_)
   |refine Fn.use (h1) rfl rfl ?_
   |refine Fn.use (h2) rfl rfl ?_
   |refine Fn.use (h3) rfl rfl ?_
   |refine Fn.use (hL) rfl rfl ?_
   |refine fin0 rfl ?_
   |refine ArK_in (wrap_i64 (by omega) (by omega)) ?_))
  all_goals rfl
 rw[if_neg g1] at h3
 have g1':e1=0:=by omega
 have b4:(e1 != 0)=false:=by simp[g1']
 by_cases g2:e2≠0
 ·rw[if_pos g2] at h3
  simp only at h3
  have b5:(e2 != 0)=true:=by simp[g2]
  have b6:(((n1+n2:Nat):Int)==(n1:Int)+(n2:Int))=true:=by simp
  refine Fn_of tt_ok Tryz.func6 rfl (by decide) Tryz.ntmps6 rfl ?_
  repeat' ((conv=>whnf);(first
   |refine Br_false b1 ?_
   |refine Br_false b2 ?_
   |refine Br_false hqa ?_
   |refine Br_false hqb ?_
   |refine Br_true (by assumption) ?_
   |refine Br_false (by assumption) ?_
   |refine Br_true (beqT (by omega)) ?_
   |refine Len_in (fun hlen=>?_)
   |refine Byte_in _ hby (by omega) ?_
   |(refine Need_in (by unfold LB;simp[ByteArray.size];omega) ?_)
   |refine Fn.use (h1) rfl rfl ?_
   |refine Fn.use (h2) rfl rfl ?_
   |refine Fn.use (h3) rfl rfl ?_
   |refine Fn.use (hL) rfl rfl ?_
   |refine fin0 rfl ?_
   |refine ArK_in (wrap_i64 (by omega) (by omega)) ?_))
  all_goals rfl
 rw[if_neg g2] at h3
 simp only at h3
 have g2':e2=0:=by omega
 have b5:(e2 != 0)=false:=by simp[g2']
 have hcl3:((l1++l2).map OpR.cs).length=l1.length+l2.length:=by simp
 refine Fn_of tt_ok Tryz.func6 rfl (by decide) Tryz.ntmps6 rfl ?_
 repeat' ((conv=>whnf);(first
  |refine Br_false b1 ?_
  |refine Br_false b2 ?_
  |refine Br_false hqa ?_
  |refine Br_false hqb ?_
  |refine Br_false (by assumption) ?_
  |refine Br_false (bneF (by omega)) ?_
  |refine Len_in (fun hlen=>?_)
  |refine Byte_in _ hby (by omega) ?_
  |(refine Need_in (by unfold LB;simp[ByteArray.size];omega) ?_)
  |refine Fn.use (h1) rfl rfl ?_
  |refine Fn.use (h2) rfl rfl ?_
  |refine Fn.use (h3) rfl rfl ?_
  |refine ArK_in (wrap_i64 (by omega) (by omega)) ?_))
 clear h1 h2 h3
 refine W_loop (fun μ st=> ∃(j:Nat),j≤(l1++l2).length∧μ=(l1++l2).length-j∧st=⟨[(5,.d (opsD l1)),(8,.d (opsD l2)),(11,.d (opsD (l1++l2))),(14,.i j)],161,[],0,[]⟩) (l1++l2).length ⟨_,?_,0,by omega,by omega,rfl⟩ ?_
 ·exact Wk_env (by repeat (first|exact trivial|refine⟨rfl,?_⟩))
 rintro μ s1 ⟨j,hj,rfl,rfl⟩
 rw[List.length_append] at hj
 refine W_run tt_ok ?_
 refine Len_in (fun hlen=>?_)
 by_cases hlt:j<l1.length+l2.length
 rotate_left
 ·refine Br_false (decide_eq_false (by omega)) ?_
  repeat' ((conv=>whnf);(first
   |refine Fn.use (hL) rfl rfl ?_
   |refine fin0 rfl ?_))
  all_goals rfl
 refine Br_true (decide_eq_true (by omega)) ?_
 have hi:((l1++l2).map OpR.cs)[(j:Int).toNat]? =some ((l1++l2)[j]'(by simp;omega)).cs:=by
  rw[Int.toNat_natCast,List.getElem?_map,List.getElem?_eq_getElem (by simp;omega)]
  rfl
 have hbk:(l1++l2).length-(j+1)<(l1++l2).length-j:=by simp;omega
 have hjn:j+1≤(l1++l2).length:=by simp;omega
 by_cases hl1:j<l1.length
 ·have hi1:(l1.map OpR.cs)[(j:Int).toNat]? =some (l1[j]).cs:=by simp[hl1]
  have hx:(l1++l2)[j]'(by simp;omega)=l1[j]:=List.getElem_append_left hl1
  rw[hx] at hi
  have hpj:=hp1 _ (List.getElem_mem hl1)
  generalize l1[j]=x at *
  have h6:=law24_told x (by omega)
  have h7:=ref24_Same x x
  rw[decide_eq_true rfl] at h7
  obtain ⟨d,a,b,c,fl,p⟩:=x
  repeat' ((conv=>whnf);(first
   |refine Br_true (decide_eq_true (by omega)) ?_
   |refine Br_false (decide_eq_false (by omega)) ?_
   |refine W_draw 0 tt_ok mixed (by kernel_rfl) ?_
   |refine Idx_in _ hi (by omega) rfl ?_
   |refine Idx_in _ hi1 (by omega) rfl ?_
   |refine Fn.use (h6) rfl rfl ?_
   |refine CallF_in (h6) rfl rfl ?_
   |refine CallF_in (h7) rfl rfl ?_
   |refine Back_in _ _ ⟨j+1,hjn,rfl,rfl⟩ hbk (Wk_ren [] rfl rfl trivial (by repeat (first|exact trivial|refine⟨⟨rfl,rfl⟩,?_⟩)) (by omega) (by omega))
   |refine ArK_in (wrap_i64 (by omega) (by omega)) ?_))
 ·have hi2:(l2.map OpR.cs)[((j:Int)-(l1.map OpR.cs).length).toNat]? =some (l2[j-l1.length]'(by omega)).cs:=by
   rw[hcl1,show ((j:Int)-(l1.length:Int)).toNat=j-l1.length by omega]
   rw[List.getElem?_map,List.getElem?_eq_getElem (by omega)]
   rfl
  have hx:(l1++l2)[j]'(by simp;omega)=l2[j-l1.length]'(by omega):=List.getElem_append_right (by omega)
  rw[hx] at hi
  have hpj:=hp2 _ (List.getElem_mem (show j-l1.length<l2.length by omega))
  generalize l2[j-l1.length]'(by omega)=x at *
  have h6:=law24_told x (by omega)
  have h7:=ref24_Same x x
  rw[decide_eq_true rfl] at h7
  obtain ⟨d,a,b,c,fl,p⟩:=x
  repeat' ((conv=>whnf);(first
   |refine Br_true (decide_eq_true (by omega)) ?_
   |refine Br_false (decide_eq_false (by omega)) ?_
   |refine W_draw 0 tt_ok mixed (by kernel_rfl) ?_
   |refine Idx_in _ hi (by omega) rfl ?_
   |refine Idx_in _ hi2 (by omega) rfl ?_
   |refine Fn.use (h6) rfl rfl ?_
   |refine CallF_in (h6) rfl rfl ?_
   |refine CallF_in (h7) rfl rfl ?_
   |refine Back_in _ _ ⟨j+1,hjn,rfl,rfl⟩ hbk (Wk_ren [] rfl rfl trivial (by repeat (first|exact trivial|refine⟨⟨rfl,rfl⟩,?_⟩)) (by omega) (by omega))
   |refine ArK_in (wrap_i64 (by omega) (by omega)) ?_))
theorem endL_len (L:List (List UInt8)) (m:Nat) (h: ∀w∈L,w.length≤m):(endL L).length≤L.length * (m+1):=by
 induction L with
 |nil=>simp[endL]
 |cons w r ih=>
  have h1:=h w (by simp)
  have h2:=ih fun x hx=>h x (by simp[hx])
  simp only[endL,List.length_append,List.length_cons,Nat.succ_mul]
  omega
theorem law24_ScriptWritten (l:List OpR) (hb: ∀o∈l,i64B o.a∧i64B o.b∧i64B o.c):Fn Tryz.prog 7 [.d (opsD l)] (.b true):=by
 have hL:=law24_live
 have hcl:(l.map OpR.cs).length=l.length:=by simp
 by_cases hl:l.length≤40
 rotate_left
 ·refine Fn_of tt_ok Tryz.func7 rfl (by decide) Tryz.ntmps7 rfl ?_
  repeat' ((conv=>whnf);(first
   |refine Br_true (decide_eq_true (by omega)) ?_
   |refine Len_in (fun hlen=>?_)
   |refine Fn.use (hL) rfl rfl ?_
   |refine fin0 rfl ?_))
  all_goals rfl
 refine Fn_of tt_ok Tryz.func7 rfl (by decide) Tryz.ntmps7 rfl ?_
 repeat' ((conv=>whnf);(first
  |refine Br_false (decide_eq_false (by omega)) ?_
  |refine Len_in (fun hlen=>?_)))
 refine W_loop (fun μ st=> ∃(j:Nat) (t:List UInt8),j≤l.length∧μ=l.length-j∧t=endL ((l.take j).map lnV)∧(∀ o∈l.take j,lnV o≠[]∧o.p.length≤20)∧st=⟨[(0,.d (opsD l)),(3,.d (str t)),(4,.i j)],79,[],0,[]⟩) l.length ⟨_,?_,0,[],by omega,by omega,rfl,by simp,rfl⟩ ?_
 ·exact Wk_env (by repeat (first|exact trivial|refine⟨rfl,?_⟩))
 rintro μ s1 ⟨j,t,hj,rfl,ht,hok,rfl⟩
 have htl:t.length≤90000:=by
  rw[ht]
  refine Nat.le_trans (endL_len _ 2000 fun w hw=>?_) ?_
  ·obtain ⟨o,ho,rfl⟩:=List.mem_map.1 hw
   obtain ⟨h1,h2,h3⟩:=hb o (List.mem_of_mem_take ho)
   exact lnV_len o h1 h2 h3
  ·refine Nat.le_trans (Nat.mul_le_mul_right _ (show _≤40 by simp;omega)) (by decide)
 refine W_run tt_ok ?_
 refine Len_in (fun hlen=>?_)
 by_cases hlt:j<l.length
 ·refine Br_true (decide_eq_true (by omega)) ?_
  have hi:(l.map OpR.cs)[(j:Int).toNat]? =some (l[j]).cs:=by simp[hlt]
  obtain ⟨ha1,ha2,ha3⟩:=hb _ (List.getElem_mem hlt)
  have htk:l.take (j+1)=l.take j++[l[j]]:=List.take_succ_eq_append_getElem hlt
  have hen:t++(lnV l[j]++[10])=endL ((l.take (j+1)).map lnV):=by rw[htk,List.map_append,endL_app,←ht];rfl
  have hokn:lnV l[j]≠[]→l[j].p.length≤20→ ∀o∈l.take (j+1),lnV o≠[]∧o.p.length≤20:=fun g1 g2 o ho=>by
   rw[htk] at ho
   rcases List.mem_append.1 ho with ho|ho
   ·exact hok o ho
   ·simp at ho;subst ho;exact⟨g1,g2⟩
  generalize l[j]=x at *
  have hSm:=ref21_SmallS x
  by_cases hp:(x.p.length:Int)≤20
  rotate_left
  ·rw[decide_eq_false hp] at hSm
   obtain ⟨d,a,b,c,fl,p⟩:=x
   repeat' ((conv=>whnf);(first
    |refine Idx_in _ hi (by omega) rfl ?_
    |refine Fn.use (hSm) rfl rfl ?_
    |refine Fn.use (hL) rfl rfl ?_
    |refine fin0 rfl ?_))
   all_goals rfl
  rw[decide_eq_true hp] at hSm
  have h3:=law24_own x (by omega)
  have h4:=script_Line x ha1 ha2 ha3
  have hvl:=lnV_len x ha1 ha2 ha3
  have hq:=str_beq (lnV x) []
  by_cases hv:lnV x=[]
  ·rw[decide_eq_true hv] at hq
   clear hen hokn hvl
   generalize lnV x=v at *
   obtain ⟨d,a,b,c,fl,p⟩:=x
   repeat' ((conv=>whnf);(first
    |refine Br_true hq ?_
    |refine Idx_in _ hi (by omega) rfl ?_
    |refine Fn.use (hSm) rfl rfl ?_
    |refine Fn.use (h3) rfl rfl ?_
    |refine Fn.use (h4) rfl rfl ?_
    |refine Fn.use (hL) rfl rfl ?_
    |refine fin0 rfl ?_))
   all_goals rfl
  rw[decide_eq_false hv] at hq
  have hokn2:=hokn hv (by omega)
  clear hokn hv
  generalize lnV x=v at *
  have hres:D.str (((⟨t.toArray⟩:ByteArray)++(⟨v.toArray⟩:ByteArray))++(⟨([10]:List UInt8).toArray⟩:ByteArray))=str (endL ((l.take (j+1)).map lnV)):=by
   rw[← hen,str_add,str_add,List.append_assoc]
  obtain ⟨d,a,b,c,fl,p⟩:=x
  repeat' ((conv=>whnf);(first
   |refine Br_false hq ?_
   |refine Idx_in _ hi (by omega) rfl ?_
   |refine Fn.use (hSm) rfl rfl ?_
   |refine Fn.use (h3) rfl rfl ?_
   |refine Fn.use (h4) rfl rfl ?_
   |(refine Need_in (by unfold LB;simp[ByteArray.size];omega) ?_)
   |(refine Back_in _ _ ⟨j+1,_,by omega,rfl,rfl,hokn2,rfl⟩ (by omega) (by rw[← hres];exact(Wk_env (by repeat (first|exact trivial|refine⟨rfl,?_⟩)))))
   |refine ArK_in (wrap_i64 (by omega) (by omega)) ?_))
 refine Br_false (decide_eq_false (by omega)) ?_
 rw[List.take_of_length_le (by omega)] at hok ht
 have hS:=script_Script t (by omega)
 rw[ht,scr_writtenS (fun o ho=>(hok o ho).1),←ht] at hS
 clear ht
 simp only at hS
 repeat' ((conv=>whnf);(first
  |refine Br_false (bneF (by omega)) ?_
  |refine Len_in (fun hlen=>?_)
  |refine Fn.use (hS) rfl rfl ?_))
 clear hS
 refine W_loop (fun μ st=> ∃(j:Nat),j≤l.length∧μ=l.length-j∧st=⟨[(0,.d (opsD l)),(6,.d (opsD l)),(9,.i j)],79,[],0,[]⟩) l.length ⟨_,?_,0,by omega,by omega,rfl⟩ ?_
 ·exact Wk_env (by repeat (first|exact trivial|refine⟨rfl,?_⟩))
 rintro μ s1 ⟨i,hj2,rfl,rfl⟩
 refine W_run tt_ok ?_
 refine Len_in (fun hlen2=>?_)
 by_cases hlt2:i<l.length
 ·refine Br_true (decide_eq_true (by omega)) ?_
  have hi:(l.map OpR.cs)[(i:Int).toNat]? =some (l[i]).cs:=by simp[hlt2]
  have hpj:=(hok _ (List.getElem_mem hlt2)).2
  generalize l[i]=x at *
  have h6:=law24_told x (by omega)
  have h7:=ref24_Same x x
  rw[decide_eq_true rfl] at h7
  obtain ⟨d,a,b,c,fl,p⟩:=x
  repeat' ((conv=>whnf);(first
   |refine W_draw 0 tt_ok mixed (by kernel_rfl) ?_
   |refine Idx_in _ hi (by omega) rfl ?_
   |refine CallF_in (h6) rfl rfl ?_
   |refine CallF_in (h7) rfl rfl ?_
   |refine Back_in _ _ ⟨i+1,by omega,rfl,rfl⟩ (by omega) (Wk_env (by repeat (first|exact trivial|refine⟨rfl,?_⟩)))
   |refine ArK_in (wrap_i64 (by omega) (by omega)) ?_))
 ·refine Br_false (decide_eq_false (by omega)) ?_
  repeat' ((conv=>whnf);(first
   |refine Fn.use (hL) rfl rfl ?_
   |refine fin0 rfl ?_))
  all_goals rfl
end Go.Eng
namespace Go.Eng
open Go Go.Proofs
def stpsSh:Sh:=.sl [i64,i64,i64]
theorem has_stps {d:D} (h:HasSh stpsSh d): ∃l:List Step,d=stepsD l:=by
 cases h with
 |sl _ rows hl h=>
  obtain ⟨l,rfl⟩:=ex_map Step.cs rows fun r hr=>by
   have h1:=hl r hr
   have h2:=h r hr
   match r,h1,h2 with
   |[x0,x1,x2],_,h2=>
    obtain ⟨n0,rfl⟩:=has_int (h2 0 i64 x0 rfl rfl)
    obtain ⟨n1,rfl⟩:=has_int (h2 1 i64 x1 rfl rfl)
    obtain ⟨n2,rfl⟩:=has_int (h2 2 i64 x2 rfl rfl)
    exact⟨⟨n0,n1,n2⟩,rfl⟩
  exact⟨l,rfl⟩
theorem has_boolS {d:D} (h:HasSh .bool d): ∃b:Bool,d=.bool b:=by cases h with|bool b=>exact⟨b,rfl⟩
def oprSh:List Sh:=[i64,i64,i64,i64,.bool,stpsSh]
def bdO (o:OpR):Prop:=i64B o.a∧i64B o.b∧i64B o.c
theorem row_opr {r:List D} (h:Row oprSh r): ∃o:OpR,bdO o∧r=o.cs:=by
 obtain ⟨g1,g2⟩:=h
 match r,g1,g2 with
 |[x0,x1,x2,x3,x4,x5],_,g2=>
  obtain ⟨n0,rfl⟩:=has_int (g2 0 i64 x0 rfl rfl)
  obtain ⟨n1,rfl,b1⟩:=has_int2 (g2 1 i64 x1 rfl rfl)
  obtain ⟨n2,rfl,b2⟩:=has_int2 (g2 2 i64 x2 rfl rfl)
  obtain ⟨n3,rfl,b3⟩:=has_int2 (g2 3 i64 x3 rfl rfl)
  obtain ⟨b,rfl⟩:=has_boolS (g2 4 .bool x4 rfl rfl)
  obtain ⟨l,rfl⟩:=has_stps (g2 5 stpsSh x5 rfl rfl)
  exact⟨⟨n0,n1,n2,n3,b,l⟩,⟨b1,b2,b3⟩,rfl⟩
theorem ex_mapP {α:Type} (f:α→List D) (Q:α→Prop): ∀rows:List (List D),(∀ r∈rows,∃a,Q a∧r=f a)→ ∃l:List α,(∀ a∈l,Q a)∧rows=l.map f:=by
 intro rows
 induction rows with
 |nil=>intro _;exact⟨[],by simp,rfl⟩
 |cons r t ih=>
  intro h
  obtain ⟨a,ha,rfl⟩:=h r (by simp)
  obtain ⟨l,hl,rfl⟩:=ih fun r hr=>h r (by simp[hr])
  exact⟨a::l,by intro b hb;rcases List.mem_cons.1 hb with rfl|hb;exact ha;exact hl b hb,rfl⟩
def oprsSh:Sh:=.sl oprSh
theorem has_oprs {d:D} (h:HasSh oprsSh d): ∃l:List OpR,(∀ o∈l,bdO o)∧d=opsD l:=by
 cases h with
 |sl _ rows hl h=>
  obtain ⟨l,hq,rfl⟩:=ex_mapP OpR.cs bdO rows fun r hr=>row_opr ⟨hl r hr,h r hr⟩
  exact⟨l,hq,rfl⟩
theorem law_ScriptLines_args (xs:List AV) (h:ArgsOk Tryz.prog [24,9] xs):Fn Tryz.prog 3 xs (.b true):=by
 obtain ⟨x,y,rfl,h1,h2⟩:=args_2 h
 obtain ⟨ds,hd,rfl⟩:=arg_agg (shs:=oprSh) h1 (by kernel_rfl) (fun _=>by kernel_rfl)
 obtain ⟨d2,hd2,rfl⟩:=arg_one (s:=.str) h2 (by kernel_rfl) (fun _=>by kernel_rfl)
 obtain ⟨o,ho,rfl⟩:=row_opr hd
 obtain ⟨s,rfl⟩:=has_str hd2
 exact law24_ScriptLines o ho.1 ho.2.1 ho.2.2 s
theorem law_ScriptBack_args (xs:List AV) (h:ArgsOk Tryz.prog [24,9] xs):Fn Tryz.prog 5 xs (.b true):=by
 obtain ⟨x,y,rfl,h1,h2⟩:=args_2 h
 obtain ⟨ds,hd,rfl⟩:=arg_agg (shs:=oprSh) h1 (by kernel_rfl) (fun _=>by kernel_rfl)
 obtain ⟨d2,hd2,rfl⟩:=arg_one (s:=.str) h2 (by kernel_rfl) (fun _=>by kernel_rfl)
 obtain ⟨o,ho,rfl⟩:=row_opr hd
 obtain ⟨s,rfl⟩:=has_str hd2
 exact law24_ScriptBack o ho.1 ho.2.1 ho.2.2 s
theorem law_ScriptReads_args (xs:List AV) (h:ArgsOk Tryz.prog [9] xs):Fn Tryz.prog 4 xs (.b true):=by
 obtain ⟨x,rfl,h1⟩:=args_1 h
 obtain ⟨d,hd,rfl⟩:=arg_one (s:=.str) h1 (by kernel_rfl) (fun _=>by kernel_rfl)
 obtain ⟨s,rfl⟩:=has_str hd
 exact law24_ScriptReads s
theorem law_ScriptJoined_args (xs:List AV) (h:ArgsOk Tryz.prog [9,9] xs):Fn Tryz.prog 6 xs (.b true):=by
 obtain ⟨x,y,rfl,h1,h2⟩:=args_2 h
 obtain ⟨d,hd,rfl⟩:=arg_one (s:=.str) h1 (by kernel_rfl) (fun _=>by kernel_rfl)
 obtain ⟨d2,hd2,rfl⟩:=arg_one (s:=.str) h2 (by kernel_rfl) (fun _=>by kernel_rfl)
 obtain ⟨s,rfl⟩:=has_str hd
 obtain ⟨s2,rfl⟩:=has_str hd2
 exact law24_ScriptJoined s s2
theorem law_ScriptWritten_args (xs:List AV) (h:ArgsOk Tryz.prog [44] xs):Fn Tryz.prog 7 xs (.b true):=by
 obtain ⟨x,rfl,h1⟩:=args_1 h
 obtain ⟨d,hd,rfl⟩:=arg_one (s:=oprsSh) h1 (by kernel_rfl) (fun _=>by kernel_rfl)
 obtain ⟨l,hl,rfl⟩:=has_oprs hd
 exact law24_ScriptWritten l hl
end Go.Eng
namespace Go.Proofs.YthldlciagajfoaaGreatDoor
open Go Go.ChangeShapes Go.WideShapes Go.ChangeAt Go.RowKit
theorem z_own:ownKnob Tryz.prog.godebug=none:=by kernel_rfl
theorem z_laidOut:laidOutB Tryz.prog=true:=by kernel_rfl
theorem z_maps:mapsRowed Tryz.prog=true:=by kernel_rfl
theorem z_stops:(Tryz.prog.stops==[])=true:=by kernel_rfl
theorem z_knobs:(Tryz.prog.stopKnobs==[])=true:=by kernel_rfl
theorem z_plain:(Rows.scriptLinesRow.plainKeys==Tryz.prog.plainKeys)=true:=by kernel_rfl
theorem z_heard:Tryz.prog.stopsHeard=true:=by kernel_rfl
theorem z_enter:Tryz.prog.mayEnter=true:=by kernel_rfl
theorem z_lifted:(Rows.scriptLinesRow.lifted==Tryz.prog.liftsFinal)=true:=by kernel_rfl
theorem z_make:(Tryz.prog.make==some Rows.scriptLinesRow.make)=true:=by kernel_rfl
end Go.Proofs.YthldlciagajfoaaGreatDoor
namespace Go.Proofs.YthldlciagajfoaaGreatDoor
open Go Go.ChangeShapes Go.WideShapes Go.ChangeAt Go.RowKit
theorem z_main:Tryz.pinned.checked.prog.mainIs=some (true,("cb0322ea15dea593dfcb9bb346889888971dda4e04ddfdef5fc5e6f596b60d7e" :String).toList):=by kernel_rfl
theorem z_looks:true=Tryz.pinned.checked.prog.looks []:=by kernel_rfl
theorem z_plainL:(Rows.scriptLinesRow.laid.all fun x=>x.2.handleName?.isNone)=true:=by kernel_rfl
theorem z_layFits (os:Os):(World.holding Tryz.prog os ⟨#[],#[],[]⟩).layFits Tryz.prog Rows.scriptLinesRow.laid []=true:=by kernel_rfl
theorem z_layIfaces (os:Os):(World.holding Tryz.prog os ⟨#[],#[],[]⟩).layIfaces Tryz.prog Rows.scriptLinesRow.laid (World.laidAll Tryz.prog os Rows.scriptLinesRow.laid)=true:=by kernel_rfl
set_option maxRecDepth 100000 in
theorem z_laidMet (os:Os) (args:Array Value):laidMetH Tryz.prog Rows.scriptLinesRow.laid ((World.laidAll Tryz.prog os Rows.scriptLinesRow.laid).forCall (fun _ _=>0) ⟨#[],args,[]⟩).memory:=by
 rw[MakeChecks.laidMetH_plain _ _ _ z_plainL]
 exact laidMet_laidAll _ (z_layFits os) (z_layIfaces os)
end Go.Proofs.YthldlciagajfoaaGreatDoor
namespace Go.Proofs.YthldlciagajfoaaGreatDoor
open Go
theorem goes_none {P:Program} (h:(P.funcs.toList.any Func.goes)=false) (f:FuncId):P.goes f=false:=by
 have h1: ∀fn∈P.funcs.toList,fn.goes=false:=fun fn hf=>by
  have:=List.any_eq_false.1 h fn hf
  simpa using this
 unfold Program.goes
 rw[Bool.or_eq_false_iff]
 constructor
 ·rw[List.any_eq_false]
  intro g _
  cases hg:P.funcs[g]? with
  |none=>simp
  |some fn=>simp[h1 fn (by simpa using Array.mem_of_getElem? hg)]
 ·have h2:P.funcs.any Func.goes=false:=by
   rw[← Array.any_toList];exact h
  rw[h2,Bool.and_false]
theorem goesBy_none {P:Program} (h:(P.funcs.toList.any Func.goes)=false) {c:OpenClaim} (hs:c.start=.entering):false=c.goesBy P:=by
 unfold OpenClaim.goesBy Program.goesAt Program.goesFrom
 rw[hs]
 cases P.funcNamed c.func with
 |none=>rfl
 |some f=>simp[goes_none h f]
theorem z_noGo:(Tryz.prog.funcs.toList.any Func.goes)=false:=by kernel_rfl
end Go.Proofs.YthldlciagajfoaaGreatDoor
namespace Go.Eng
open Go Go.Proofs
theorem white_extra:WhiteExtra Tryz.prog Tryz.lays199_ren:=
 ⟨by kernel_rfl,by kernel_rfl,by kernel_rfl,by kernel_rfl,by kernel_rfl,by kernel_rfl,by kernel_rfl,by kernel_rfl⟩
theorem laid_white {w:World} {l:List (String×DataW Unit)} (h:laidMetH Tryz.prog l w) (hp:(l.all fun x=>x.2.handleName?.isNone)=true) (hx:("unicode.White_Space",Lib.whiteData)∈l):Lib.WhiteTab 1 w:=by
 rw[MakeChecks.laidMetH_plain _ _ _ hp] at h
 exact whiteTab_of_reads Tryz.lays199 white_extra (Lib.laidMet.reads h hx)
theorem glob_of {w:World} {l:List (String×DataW Unit)} (h:laidMetH Tryz.prog l w) (hp:(l.all fun x=>x.2.handleName?.isNone)=true) (hs:w.ShapedOpen Tryz.prog) {n1 n2:String} {d1 d2 d3 d4 d5:DataW Unit}
  (h1:("strconv.ErrSyntax",DataW.iface n1 d1)∈l) (h2:("strconv.ErrRange",DataW.iface n2 d2)∈l) (h3:("internal/strconv.uint64pow10",d3)∈l) (h4:("strings.asciiSpace",d4)∈l) (h5:("unicode.White_Space",d5)∈l)
  (e3:d3=Lib.tabData .u64 Lib.pow10Tab) (e4:d4=Lib.tabData .u8 Lib.asciiSpaceTab) (e5:d5=Lib.whiteData):GlobW w:=
 ⟨cell_of_shapedOpen_int (zero:= #[.int .i64 0]) (t:=3) hs (by decide +kernel) (by kernel_rfl) rfl (by kernel_rfl) (by kernel_rfl) Tryz.underlying3,
  laid_iface h hp h1 (by kernel_rfl) (by kernel_rfl) Tryz.underlying101,laid_iface h hp h2 (by kernel_rfl) (by kernel_rfl) Tryz.underlying101,
  laid_tab h hp (e3▸h3) (g:=7) (t:=290) (e:=231) (m:=20) (by kernel_rfl) (by kernel_rfl) (by kernel_rfl) (by kernel_rfl) (by kernel_rfl) (by kernel_rfl),
  laid_tab h hp (e4▸h4) (g:=0) (t:=134) (e:=5) (m:=256) (by kernel_rfl) (by kernel_rfl) (by kernel_rfl) (by kernel_rfl) (by kernel_rfl) (by kernel_rfl),
  laid_white h hp (e5▸h5)⟩
end Go.Eng
namespace Go.Proofs.YthldlciagajfoaaGreatDoor
open Go
theorem pin_laid_unicode_utf8_first:Tryz.pinned.checked.prog.pinnedFits "unicode/utf8.first" =true:=by kernel_rfl
theorem noOwnUnsafe:Tryz.pinned.checked.prog.headLifts.contains "ownunsafe" =false:=by kernel_rfl
theorem fits1:Tryz.pinned.checked.prog.listedFits [("unicode/utf8.first",Rows.laid_unicode_utf8_first),("unicode/utf8.acceptRanges",Rows.laid_unicode_utf8_acceptRanges),("strconv.ErrSyntax",Rows.laid_strconv_ErrSyntax),("strconv.ErrRange",Rows.laid_strconv_ErrRange),("internal/strconv.uint64pow10",Rows.laid_internal_strconv_uint64pow10),("math/bits.deBruijn32tab",Rows.laid_math_bits_deBruijn32tab),("math/bits.deBruijn64tab",Rows.laid_math_bits_deBruijn64tab),("strings.asciiSpace",Rows.laid_strings_asciiSpace),("unicode.White_Space",Rows.laid_unicode_White_Space)]=true:=by
 unfold Program.listedFits
 rw[noOwnUnsafe]
 kernel_rfl
abbrev tieL:List (String×DataW Unit):=[("unicode/utf8.acceptRanges",Rows.laid_unicode_utf8_acceptRanges),("strconv.ErrSyntax",Rows.laid_strconv_ErrSyntax),("strconv.ErrRange",Rows.laid_strconv_ErrRange),("internal/strconv.uint64pow10",Rows.laid_internal_strconv_uint64pow10),("math/bits.deBruijn32tab",Rows.laid_math_bits_deBruijn32tab),("math/bits.deBruijn64tab",Rows.laid_math_bits_deBruijn64tab),("strings.asciiSpace",Rows.laid_strings_asciiSpace),("unicode.White_Space",Rows.laid_unicode_White_Space)]
theorem tie_hw:Tryz.prog.worded (varsWordLater true)=true:=by kernel_rfl
theorem tie_hw2:Tryz.prog.worded (varsWordLater !true)=false:=by kernel_rfl
theorem tie_root:Tryz.prog.worded rootWordLater=true:=by kernel_rfl
theorem tie_hk:tieL.map (fun x=>Tryz.prog.kindOfLater x.1)=[.data,.sentinel,.sentinel,.data,.data,.data,.data,.listed].map some:=by kernel_rfl
theorem tie_hg:(Tryz.prog.funcNamed "gosem.cut.vars").isSome=true:=by kernel_rfl
theorem tie_hn:varsNamedLaterB Tryz.prog (varsId Tryz.prog) tieL=true:=by kernel_rfl
theorem tie_hd (os:Os) (tape:Tape):varsDone Tryz.prog 400 (varsId Tryz.prog) os tape=true:=by kernel_rfl
theorem tie_h1 (os:Os) (tape:Tape):(DataW.laidRun Tryz.prog (varsWorld Tryz.prog 400 (varsId Tryz.prog) os tape).memory 8 (tieL.map (·.1))).map (·.1)=some tieL:=by kernel_rfl
def placeK:MemPlace→Nat
 |.cell b off=>8192 * b+off
 |.map m=>8192 * m+8191
def onceK:Nat→List Nat→Bool
 |_,[]=>true
 |acc,k::r=>match Nat.ble 1 (Nat.land (Nat.shiftRight acc k) 1) with
  |true=>false
  |false=>onceK (Nat.lor acc (Nat.shiftLeft 1 k)) r
theorem onceK_spec: ∀(l:List Nat) (acc:Nat),onceK acc l=true→l.Nodup∧ ∀k∈l,acc.testBit k=false:=by
 intro l
 induction l with
 |nil=>intro acc _;simp
 |cons k r ih=>
  intro acc h
  simp only[onceK] at h
  split at h
  ·simp at h
  ·rename_i hb
   have hk:acc.testBit k=false:=by
    have h1:Nat.land (Nat.shiftRight acc k) 1=0:=by
     cases hq:Nat.land (Nat.shiftRight acc k) 1 with
     |zero=>rfl
     |succ n=>rw[hq] at hb;simp[Nat.ble] at hb
    have h2:(acc >>> k) &&& 1=0:=h1
    unfold Nat.testBit
    rw[Nat.and_comm] at h2
    simp[h2]
   obtain ⟨h1,h2⟩:=ih _ h
   have h3: ∀x∈r,acc.testBit x=false∧x≠k:=fun x hx=>by
    have h4:=h2 x hx
    have h5:(acc ||| 1 <<< k).testBit x=false:=h4
    rw[Nat.testBit_or] at h5
    simp only[Bool.or_eq_false_iff] at h5
    refine⟨h5.1,fun e=>?_⟩
    subst e
    have:=h5.2
    rw[Nat.one_shiftLeft,Nat.testBit_two_pow_self] at this
    cases this
   refine⟨List.nodup_cons.2 ⟨fun hm=>(h3 k hm).2 rfl,h1⟩,fun x hx=>?_⟩
   rcases List.mem_cons.1 hx with rfl|hx
   ·exact hk
   ·exact(h3 x hx).1
theorem onceK_nodup {l:List MemPlace} (h:onceK 0 (l.map placeK)=true):l.Nodup:=
 (List.pairwise_map.1 (onceK_spec _ _ h).1).imp fun h e=>h (by rw[e])
theorem tie_h2a (os:Os) (tape:Tape):(DataW.laidRun Tryz.prog (varsWorld Tryz.prog 400 (varsId Tryz.prog) os tape).memory 8 (tieL.map (·.1))).map (fun x=>onceK 0 (x.2.map placeK))=some true:=by kernel_rfl
theorem tie_h2b (os:Os) (tape:Tape):(DataW.laidRun Tryz.prog (varsWorld Tryz.prog 400 (varsId Tryz.prog) os tape).memory 8 (tieL.map (·.1))).map (fun x=>laidRowsB Tryz.prog (varsWorld Tryz.prog 400 (varsId Tryz.prog) os tape).memory x.2)=some true:=by kernel_rfl
theorem tie_h2 (os:Os) (tape:Tape):(DataW.laidRun Tryz.prog (varsWorld Tryz.prog 400 (varsId Tryz.prog) os tape).memory 8 (tieL.map (·.1))).map (fun x=>decide x.2.Nodup&&laidRowsB Tryz.prog (varsWorld Tryz.prog 400 (varsId Tryz.prog) os tape).memory x.2)=some true:=by
 have ha:=tie_h2a os tape
 have hb:=tie_h2b os tape
 generalize DataW.laidRun Tryz.prog (varsWorld Tryz.prog 400 (varsId Tryz.prog) os tape).memory 8 (tieL.map (·.1))=q at *
 cases q with
 |none=>simp at ha
 |some x=>
  simp only[Option.map_some,Option.some.injEq] at ha hb⊢
  rw[hb,decide_eq_true (onceK_nodup ha)]
  rfl
theorem tie_hp:(tieL.all fun x=>x.2.handleName?.isNone)=true:=by kernel_rfl
theorem tie:Tryz.prog.laidByTextLater tieL [.data,.sentinel,.sentinel,.data,.data,.data,.data,.listed] true:=
 Program.laidByTextLater_by_run 400 8 tie_hw tie_hw2 tie_root tie_hk tie_hg tie_hn tie_hd tie_h1 tie_h2 tie_hp
theorem scriptLines_row_tie:Rows.scriptLinesRow.laidByTextAt .later Tryz.pinned [.pinned,.data,.sentinel,.sentinel,.data,.data,.data,.data,.listed] true:=
 OpenClaim.laidByTextAt_pinned rfl rfl tie rfl rfl rfl rfl (fun y hy _e=>by
  simp only[Rows.scriptLinesRow,List.zip_cons_cons,List.zip_nil_right,List.mem_cons,List.mem_nil_iff,or_false] at hy
  rcases hy with rfl|rfl|rfl|rfl|rfl|rfl|rfl|rfl|rfl
  ·exact⟨pin_laid_unicode_utf8_first,by kernel_rfl⟩
  ·cases _e
  ·cases _e
  ·cases _e
  ·cases _e
  ·cases _e
  ·cases _e
  ·cases _e
  ·cases _e) fits1
theorem scriptReads_row_tie:Rows.scriptReadsRow.laidByTextAt .later Tryz.pinned [.pinned,.data,.sentinel,.sentinel,.data,.data,.data,.data,.listed] true:=
 OpenClaim.laidByTextAt_pinned rfl rfl tie rfl rfl rfl rfl (fun y hy _e=>by
  simp only[Rows.scriptReadsRow,List.zip_cons_cons,List.zip_nil_right,List.mem_cons,List.mem_nil_iff,or_false] at hy
  rcases hy with rfl|rfl|rfl|rfl|rfl|rfl|rfl|rfl|rfl
  ·exact⟨pin_laid_unicode_utf8_first,by kernel_rfl⟩
  ·cases _e
  ·cases _e
  ·cases _e
  ·cases _e
  ·cases _e
  ·cases _e
  ·cases _e
  ·cases _e) fits1
theorem scriptBack_row_tie:Rows.scriptBackRow.laidByTextAt .later Tryz.pinned [.pinned,.data,.sentinel,.sentinel,.data,.data,.data,.data,.listed] true:=
 OpenClaim.laidByTextAt_pinned rfl rfl tie rfl rfl rfl rfl (fun y hy _e=>by
  simp only[Rows.scriptBackRow,List.zip_cons_cons,List.zip_nil_right,List.mem_cons,List.mem_nil_iff,or_false] at hy
  rcases hy with rfl|rfl|rfl|rfl|rfl|rfl|rfl|rfl|rfl
  ·exact⟨pin_laid_unicode_utf8_first,by kernel_rfl⟩
  ·cases _e
  ·cases _e
  ·cases _e
  ·cases _e
  ·cases _e
  ·cases _e
  ·cases _e
  ·cases _e) fits1
theorem scriptJoined_row_tie:Rows.scriptJoinedRow.laidByTextAt .later Tryz.pinned [.pinned,.data,.sentinel,.sentinel,.data,.data,.data,.data,.listed] true:=
 OpenClaim.laidByTextAt_pinned rfl rfl tie rfl rfl rfl rfl (fun y hy _e=>by
  simp only[Rows.scriptJoinedRow,List.zip_cons_cons,List.zip_nil_right,List.mem_cons,List.mem_nil_iff,or_false] at hy
  rcases hy with rfl|rfl|rfl|rfl|rfl|rfl|rfl|rfl|rfl
  ·exact⟨pin_laid_unicode_utf8_first,by kernel_rfl⟩
  ·cases _e
  ·cases _e
  ·cases _e
  ·cases _e
  ·cases _e
  ·cases _e
  ·cases _e
  ·cases _e) fits1
theorem scriptWritten_row_tie:Rows.scriptWrittenRow.laidByTextAt .later Tryz.pinned [.pinned,.data,.sentinel,.sentinel,.data,.data,.data,.data,.listed] true:=
 OpenClaim.laidByTextAt_pinned rfl rfl tie rfl rfl rfl rfl (fun y hy _e=>by
  simp only[Rows.scriptWrittenRow,List.zip_cons_cons,List.zip_nil_right,List.mem_cons,List.mem_nil_iff,or_false] at hy
  rcases hy with rfl|rfl|rfl|rfl|rfl|rfl|rfl|rfl|rfl
  ·exact⟨pin_laid_unicode_utf8_first,by kernel_rfl⟩
  ·cases _e
  ·cases _e
  ·cases _e
  ·cases _e
  ·cases _e
  ·cases _e
  ·cases _e
  ·cases _e) fits1
end Go.Proofs.YthldlciagajfoaaGreatDoor
