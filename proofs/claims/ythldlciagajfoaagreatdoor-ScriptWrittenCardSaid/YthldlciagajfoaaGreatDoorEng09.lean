/- What the seat's proofs lean on, part 9: the executor over abstract values, its soundness, and what the program's functions answer (Chn2, Vis1, Fir1, Fir2, Pag0, Pag1, Pag2, RunC, Ins1, Ref1, Ref2, Ref3, Sp49, Run1, Ref4, Ref5, Run2, Pag3, Pag4, Pag5, Pag6, Pag7, Ins2, Ins3, Ins4, Pag8). -/
import Derived.Test.YthldlciagajfoaaGreatDoorEng08
import Derived.Test.YthldlciagajfoaaGreatDoorEng05
import Derived.Test.YthldlciagajfoaaGreatDoorEng04
import Derived.Test.YthldlciagajfoaaGreatDoorEng07
import Derived.Test.YthldlciagajfoaaGreatDoorEng06
import Derived.Test.YthldlciagajfoaaGreatDoorEng03
set_option linter.all false
set_option linter.unusedVariables false
set_option linter.unusedSimpArgs false
set_option maxRecDepth 100000
namespace Go.Eng
open Go Go.Proofs
def evtsR (t:Tree) (old next:Int):List Ev:=
 if (allOk t old&&allOk t next)=false then [] else
  (if old≠next∧old≠0 then pairR 1 3 old next else [])++(if old≠next∧next≠0 then pairR 0 2 next old else [])
theorem chain_Events (t:Tree) (old next:Int):Fn Tryz.prog 229 [.d (treeD t),.i old,.i next] (.d (evsD (evtsR t old next))):=by
 refine Fn_of tt_ok Tryz.func229 rfl (by decide) Tryz.ntmps229 rfl ?_
 have h1:=chain_is t old next
 unfold evtsR
 cases hb:(allOk t old&&allOk t next)
 ·rw[hb] at h1
  repeat' ((conv=>whnf);(first
   |refine Fn.use (h1) rfl rfl ?_
   |refine finD (F:=[]) .nsl))
 rw[hb] at h1
 rw[if_neg (by simp)]
 simp only[Bool.and_eq_true] at hb
 have hA:=chain_Chain t old
 have hB:=chain_Chain t next
 have hp1:=chain_pair 1 3 old next
 have hp2:=chain_pair 0 2 next old
 have eA:chainR t old=if old=0 then [0] else [old,0]:=by unfold chainR;rw[if_neg (by rw[hb.1];simp)]
 have eB:chainR t next=if next=0 then [0] else [next,0]:=by unfold chainR;rw[if_neg (by rw[hb.2];simp)]
 rw[eA] at hA
 rw[eB] at hB
 by_cases h0:old=0
 ·by_cases hn:next=0
  ·subst h0 hn
   rw[if_neg (by simp),if_neg (by simp)]
   rw[if_pos rfl] at hA hB
   have e1:(List.map intCs [0]).length=1:=rfl
   have e2:(List.map intCs []).length=0:=rfl
   repeat' ((conv=>whnf);(first
    |refine Fn.use (h1) rfl rfl ?_
    |refine Fn.use (hA) rfl rfl ?_))
   refine W_loop (fun μ s=>(μ=1∧s=⟨[(2,.i 0),(4,.ptr 0 0),(7,.d (ints [0])),(8,.d (ints [0]))],82,[some (.row [.i 0])],0,[]⟩)∨(μ=0∧s=⟨[(2,.i 0),(4,.ptr 0 0),(7,.d (ints [])),(8,.d (ints []))],82,[some (.row [.i 0])],0,[]⟩)) 1 ⟨_,?_,(.inl ⟨rfl,rfl⟩)⟩ ?_
   ·exact Wk_env (by repeat (first|exact trivial|refine⟨rfl,?_⟩))
   rintro μ s1 (⟨rfl,rfl⟩|⟨rfl,rfl⟩)
   ·refine W_run tt_ok ?_
    repeat' ((conv=>whnf);(first
     |refine W_draw 0 tt_ok mixed (by kernel_rfl) ?_
     |refine Idx_in _ rfl (by first|decide|simp|omega) rfl ?_
     |refine Need_in ⟨by simp,by simp,by simp,cs1⟩ ?_
     |refine Back_in _ 0 (.inr (⟨rfl,rfl⟩)) (by omega) (Wk_env (by repeat (first|exact trivial|refine⟨rfl,?_⟩)))
     |refine ArK_in (wrap_i64 (by omega) (by omega)) ?_))
   refine W_run tt_ok ?_
   repeat' ((conv=>whnf);(first
    |refine Len_in (fun hlen=>?_)
    |refine W_draw 0 tt_ok mixed (by kernel_rfl) ?_))
   refine W_loop (fun μ s=>μ=0∧s=⟨[(2,.i 0),(4,.ptr 0 0),(8,.d (ints [])),(9,.ptr 1 0),(58,.d (ints [])),(59,.i 0),(60,.i 0)],82,[some (.row [.i 0]),some (.row [.nsl])],0,[]⟩) 0 ⟨_,?_,⟨rfl,rfl⟩⟩ ?_
   ·exact Wk_env (by repeat (first|exact trivial|refine⟨rfl,?_⟩))
   rintro μ s1 ⟨rfl,rfl⟩
   refine W_run tt_ok ?_
   repeat' ((conv=>whnf);(first
    |refine Tri.call (back_int []) [] rfl rfl trivial rfl rfl rfl rfl rfl rfl ?_))
   refine W_rangeG [2] (fs0:=[]) (cs0:=[.ptr 0 0]) (H0:=[some (.row [.d (ints [])])]) (ps:=[73,74]) (backXs AV.i []) (fun k H=>H=[some (.row [.i 0]),some (.row [.nsl]),none,some .dfr]) (fun _ _=>False) rfl rfl rfl
    (by repeat (first|exact trivial|refine⟨⟨rfl,rfl⟩,?_⟩)) rfl rfl rfl rfl (by decide) rfl (backXs_args AV.i (fun _=>rfl) []) (fun _ H=>H=[some (.row [.d (ints [])]),none]) (fun Y hx hY=>back_seq [] Y hx hY) rfl ?_ ?_ ?_
   ·intro l k x H' hx
    simp[backXs] at hx
   ·rintro H' H1 rfl rfl _ _
    repeat' ((conv=>whnf);(first
     |refine finD (F:=[]) .nsl))
   ·intro e H' H1 c _ h
    exact h.elim
  ·subst h0
   rw[if_neg (by simp),if_pos ⟨fun h=>hn h.symm,hn⟩]
   rw[if_pos rfl] at hA
   rw[if_neg hn] at hB
   have e1:(List.map intCs [0]).length=1:=rfl
   have e2:(List.map intCs [next,0]).length=2:=rfl
   have e3:(List.map intCs []).length=0:=rfl
   have e4:(List.map intCs [next]).length=1:=rfl
   repeat' ((conv=>whnf);(first
    |refine Fn.use (h1) rfl rfl ?_
    |refine Fn.use (hA) rfl rfl ?_
    |refine Fn.use (hB) rfl rfl ?_))
   refine W_loop (fun μ s=>(μ=1∧s=⟨[(2,.i next),(4,.ptr 0 0),(7,.d (ints [0])),(8,.d (ints [next,0]))],82,[some (.row [.i 0])],0,[]⟩)∨(μ=0∧s=⟨[(2,.i next),(4,.ptr 0 0),(7,.d (ints [])),(8,.d (ints [next]))],82,[some (.row [.i 0])],0,[]⟩)) 1 ⟨_,?_,(.inl ⟨rfl,rfl⟩)⟩ ?_
   ·exact Wk_env (by repeat (first|exact trivial|refine⟨rfl,?_⟩))
   rintro μ s1 (⟨rfl,rfl⟩|⟨rfl,rfl⟩)
   ·refine W_run tt_ok ?_
    repeat' ((conv=>whnf);(first
     |refine W_draw 0 tt_ok mixed (by kernel_rfl) ?_
     |refine Idx_in _ rfl (by first|decide|simp|omega) rfl ?_
     |refine Need_in ⟨by simp,by simp,by simp,cs1⟩ ?_
     |refine Back_in _ 0 (.inr (⟨rfl,rfl⟩)) (by omega) (Wk_env (by repeat (first|exact trivial|refine⟨rfl,?_⟩)))
     |refine ArK_in (wrap_i64 (by omega) (by omega)) ?_))
   refine W_run tt_ok ?_
   repeat' ((conv=>whnf);(first
    |refine Len_in (fun hlen=>?_)
    |refine W_draw 0 tt_ok mixed (by kernel_rfl) ?_))
   refine W_loop (fun μ s=>μ=0∧s=⟨[(2,.i next),(4,.ptr 0 0),(8,.d (ints [next])),(9,.ptr 1 0),(58,.d (ints [])),(59,.i 0),(60,.i 0)],82,[some (.row [.i 0]),some (.row [.nsl])],0,[]⟩) 0 ⟨_,?_,⟨rfl,rfl⟩⟩ ?_
   ·exact Wk_env (by repeat (first|exact trivial|refine⟨rfl,?_⟩))
   rintro μ s1 ⟨rfl,rfl⟩
   refine W_run tt_ok ?_
   repeat' ((conv=>whnf);(first
    |refine Tri.call (back_int [next]) [] rfl rfl trivial rfl rfl rfl rfl rfl rfl ?_))
   refine W_rangeG [2] (fs0:=[]) (cs0:=[.ptr 0 0]) (H0:=[some (.row [.d (ints [next])])]) (ps:=[73,74]) (backXs AV.i [next]) (fun k H=>(k=0∧H=[some (.row [.i 0]),some (.row [.nsl]),none,some .dfr])∨(k=1∧H=[some (.row [.i 0]),some (.row [.msl 4 0 2 2 6]),none,some .dfr,some (.row (((pairR 0 2 next 0).map Ev.cs).flatten.map .d))])) (fun _ _=>False) rfl rfl rfl
    (by repeat (first|exact trivial|refine⟨⟨rfl,rfl⟩,?_⟩)) rfl rfl rfl rfl (by decide) rfl (backXs_args AV.i (fun _=>rfl) [next]) (fun _ H=>H=[some (.row [.d (ints [next])]),none]) (fun Y hx hY=>back_seq [next] Y hx hY) (.inl ⟨rfl,rfl⟩) ?_ ?_ ?_
   ·rintro lp k x H' hx hJ hlen hY
    obtain ⟨rfl,rfl⟩:k=0∧x=.tup [.i 0,.i next]:=by
     have hk:=(List.getElem?_eq_some_iff.1 hx).1
     rw[backXs_len] at hk
     simp at hk
     subst hk
     rw[backXs_get AV.i [next] (by simp)] at hx
     simp at hx
     exact⟨rfl,hx.symm⟩
    rcases hJ with ⟨_,rfl⟩|⟨h,_⟩
    rotate_left
    ·simp at h
    refine W_run tt_ok ?_
    skip
    refine Need_in rfl ?_
    refine W_run tt_ok ?_
    repeat' ((conv=>whnf);(first
     |refine App_nsl ((pairR 0 2 next 0).map Ev.cs) rfl rfl (by simp[pairR]) cs6e (by simp[pairR]) (Nat.le_of_ble_eq_true rfl) ?_
     |refine W_draw 0 tt_ok mixed (by kernel_rfl) ?_
     |refine CallF_in (hp2) rfl rfl ?_))
    conv=>whnf
    exact Rd_next [some (.row [.i 0]),some (.row [.msl 4 0 2 2 6]),none,some .dfr,some (.row (((pairR 0 2 next 0).map Ev.cs).flatten.map .d))] (Wk_env (by repeat (first|exact trivial|refine⟨rfl,?_⟩))) rfl (Nat.le_of_ble_eq_true rfl) (.inr ⟨rfl,rfl⟩)
   ·rintro H' H1 hJ rfl _ _
    rcases hJ with ⟨h,_⟩|⟨_,rfl⟩
    ·simp[backXs_len] at h
    skip
    conv=>whnf
    exact finD (F:=[4]) (FV_tab (sz:=6) ((pairR 0 2 next 0).map Ev.cs) rfl rfl rfl cs6e)
   ·intro e H' H1 c _ h
    exact h.elim
 ·by_cases hn:next=0
  ·subst hn
   rw[if_pos ⟨h0,h0⟩,if_neg (by simp)]
   rw[if_neg h0] at hA
   rw[if_pos rfl] at hB
   have e1:(List.map intCs [old,0]).length=2:=rfl
   have e2:(List.map intCs [0]).length=1:=rfl
   have e3:(List.map intCs [old]).length=1:=rfl
   have e4:(List.map intCs []).length=0:=rfl
   repeat' ((conv=>whnf);(first
    |refine Fn.use (h1) rfl rfl ?_
    |refine Fn.use (hA) rfl rfl ?_
    |refine Fn.use (hB) rfl rfl ?_))
   refine W_loop (fun μ s=>(μ=1∧s=⟨[(2,.i 0),(4,.ptr 0 0),(7,.d (ints [old,0])),(8,.d (ints [0]))],82,[some (.row [.i old])],0,[]⟩)∨(μ=0∧s=⟨[(2,.i 0),(4,.ptr 0 0),(7,.d (ints [old])),(8,.d (ints []))],82,[some (.row [.i old])],0,[]⟩)) 1 ⟨_,?_,(.inl ⟨rfl,rfl⟩)⟩ ?_
   ·exact Wk_env (by repeat (first|exact trivial|refine⟨rfl,?_⟩))
   rintro μ s1 (⟨rfl,rfl⟩|⟨rfl,rfl⟩)
   ·refine W_run tt_ok ?_
    repeat' ((conv=>whnf);(first
     |refine W_draw 0 tt_ok mixed (by kernel_rfl) ?_
     |refine Idx_in _ rfl (by first|decide|simp|omega) rfl ?_
     |refine Need_in ⟨by simp,by simp,by simp,cs1⟩ ?_
     |refine Back_in _ 0 (.inr (⟨rfl,rfl⟩)) (by omega) (Wk_env (by repeat (first|exact trivial|refine⟨rfl,?_⟩)))
     |refine ArK_in (wrap_i64 (by omega) (by omega)) ?_))
   refine W_run tt_ok ?_
   repeat' ((conv=>whnf);(first
    |refine Len_in (fun hlen=>?_)
    |refine W_draw 0 tt_ok mixed (by kernel_rfl) ?_))
   refine W_loop (fun μ s=>(μ=1∧s=⟨[(2,.i 0),(4,.ptr 0 0),(8,.d (ints [])),(9,.ptr 1 0),(58,.d (ints [old])),(59,.i 1),(60,.i 0)],82,[some (.row [.i old]),some (.row [.nsl])],0,[]⟩)∨(μ=0∧s=⟨[(2,.i 0),(4,.ptr 0 0),(8,.d (ints [])),(9,.ptr 1 0),(58,.d (ints [old])),(59,.i 1),(60,.i 1)],82,[some (.row [.i old]),some (.row [.msl 2 0 2 2 6]),some (.row (((pairR 1 3 old 0).map Ev.cs).flatten.map .d))],0,[]⟩)) 1 ⟨_,?_,.inl ⟨rfl,rfl⟩⟩ ?_
   ·exact Wk_env (by repeat (first|exact trivial|refine⟨rfl,?_⟩))
   rintro μ s1 (⟨rfl,rfl⟩|⟨rfl,rfl⟩)
   ·refine W_run tt_ok ?_
    repeat' ((conv=>whnf);(first
     |refine App_nsl ((pairR 1 3 old 0).map Ev.cs) rfl rfl (by simp[pairR]) cs6e (by simp[pairR]) (Nat.le_of_ble_eq_true rfl) ?_
     |refine W_draw 0 tt_ok mixed (by kernel_rfl) ?_
     |refine Idx_in _ rfl (by first|decide|simp|omega) rfl ?_
     |refine CallF_in (hp1) rfl rfl ?_
     |refine Back_in _ 0 (.inr ⟨rfl,rfl⟩) (by omega) (Wk_env (by repeat (first|exact trivial|refine⟨rfl,?_⟩)))
     |refine ArK_in (wrap_i64 (by omega) (by omega)) ?_))
   refine W_run tt_ok ?_
   repeat' ((conv=>whnf);(first
    |refine Tri.call (back_int []) [] rfl rfl trivial rfl rfl rfl rfl rfl rfl ?_))
   refine W_rangeG [3] (fs0:=[]) (cs0:=[.ptr 0 0]) (H0:=[some (.row [.d (ints [])])]) (ps:=[73,74]) (backXs AV.i []) (fun k H=>H=[some (.row [.i old]),some (.row [.msl 2 0 2 2 6]),some (.row (((pairR 1 3 old 0).map Ev.cs).flatten.map .d)),none,some .dfr]) (fun _ _=>False) rfl rfl rfl
    (by repeat (first|exact trivial|refine⟨⟨rfl,rfl⟩,?_⟩)) rfl rfl rfl rfl (by decide) rfl (backXs_args AV.i (fun _=>rfl) []) (fun _ H=>H=[some (.row [.d (ints [])]),none]) (fun Y hx hY=>back_seq [] Y hx hY) rfl ?_ ?_ ?_
   ·intro l k x H' hx
    simp[backXs] at hx
   ·rintro H' H1 rfl rfl _ _
    skip
    conv=>whnf
    exact finD (F:=[2]) (FV_tab (sz:=6) ((pairR 1 3 old 0).map Ev.cs) rfl rfl rfl cs6e)
   ·intro e H' H1 c _ h
    exact h.elim
  ·by_cases he:old=next
   ·subst he
    rw[if_neg (by simp),if_neg (by simp)]
    rw[if_neg h0] at hA hB
    have e1:(List.map intCs [old,0]).length=2:=rfl
    have e2:(List.map intCs [old]).length=1:=rfl
    have e3:(List.map intCs []).length=0:=rfl
    repeat' ((conv=>whnf);(first
     |refine Fn.use (h1) rfl rfl ?_
     |refine Fn.use (hA) rfl rfl ?_))
    refine W_loop (fun μ s=>(μ=2∧s=⟨[(2,.i old),(4,.ptr 0 0),(7,.d (ints [old,0])),(8,.d (ints [old,0]))],82,[some (.row [.i old])],0,[]⟩)∨(μ=1∧s=⟨[(2,.i old),(4,.ptr 0 0),(7,.d (ints [old])),(8,.d (ints [old]))],82,[some (.row [.i old])],0,[]⟩)∨(μ=0∧s=⟨[(2,.i old),(4,.ptr 0 0),(7,.d (ints [])),(8,.d (ints []))],82,[some (.row [.i old])],0,[]⟩)) 2 ⟨_,?_,(.inl ⟨rfl,rfl⟩)⟩ ?_
    ·exact Wk_env (by repeat (first|exact trivial|refine⟨rfl,?_⟩))
    rintro μ s1 (⟨rfl,rfl⟩|⟨rfl,rfl⟩|⟨rfl,rfl⟩)
    ·refine W_run tt_ok ?_
     repeat' ((conv=>whnf);(first
      |refine W_draw 0 tt_ok mixed (by kernel_rfl) ?_
      |refine Idx_in _ rfl (by first|decide|simp|omega) rfl ?_
      |refine Need_in ⟨by simp,by simp,by simp,cs1⟩ ?_
      |refine Back_in _ 1 (.inr (.inl ⟨rfl,rfl⟩)) (by omega) (Wk_env (by repeat (first|exact trivial|refine⟨rfl,?_⟩)))
      |refine ArK_in (wrap_i64 (by omega) (by omega)) ?_))
    ·refine W_run tt_ok ?_
     repeat' ((conv=>whnf);(first
      |refine Br_true (beqT (by omega)) ?_
      |refine W_draw 0 tt_ok mixed (by kernel_rfl) ?_
      |refine Idx_in _ rfl (by first|decide|simp|omega) rfl ?_
      |refine Need_in ⟨by simp,by simp,by simp,cs1⟩ ?_
      |refine Back_in _ 0 (.inr (.inr (⟨rfl,rfl⟩))) (by omega) (Wk_env (by repeat (first|exact trivial|refine⟨rfl,?_⟩)))
      |refine ArK_in (wrap_i64 (by omega) (by omega)) ?_))
    refine W_run tt_ok ?_
    repeat' ((conv=>whnf);(first
     |refine Len_in (fun hlen=>?_)
     |refine W_draw 0 tt_ok mixed (by kernel_rfl) ?_))
    refine W_loop (fun μ s=>μ=0∧s=⟨[(2,.i old),(4,.ptr 0 0),(8,.d (ints [])),(9,.ptr 1 0),(58,.d (ints [])),(59,.i 0),(60,.i 0)],82,[some (.row [.i old]),some (.row [.nsl])],0,[]⟩) 0 ⟨_,?_,⟨rfl,rfl⟩⟩ ?_
    ·exact Wk_env (by repeat (first|exact trivial|refine⟨rfl,?_⟩))
    rintro μ s1 ⟨rfl,rfl⟩
    refine W_run tt_ok ?_
    repeat' ((conv=>whnf);(first
     |refine Tri.call (back_int []) [] rfl rfl trivial rfl rfl rfl rfl rfl rfl ?_))
    refine W_rangeG [2] (fs0:=[]) (cs0:=[.ptr 0 0]) (H0:=[some (.row [.d (ints [])])]) (ps:=[73,74]) (backXs AV.i []) (fun k H=>H=[some (.row [.i old]),some (.row [.nsl]),none,some .dfr]) (fun _ _=>False) rfl rfl rfl
     (by repeat (first|exact trivial|refine⟨⟨rfl,rfl⟩,?_⟩)) rfl rfl rfl rfl (by decide) rfl (backXs_args AV.i (fun _=>rfl) []) (fun _ H=>H=[some (.row [.d (ints [])]),none]) (fun Y hx hY=>back_seq [] Y hx hY) rfl ?_ ?_ ?_
    ·intro l k x H' hx
     simp[backXs] at hx
    ·rintro H' H1 rfl rfl _ _
     repeat' ((conv=>whnf);(first
      |refine finD (F:=[]) .nsl))
    ·intro e H' H1 c _ h
     exact h.elim
   ·rw[if_pos ⟨he,h0⟩,if_pos ⟨he,hn⟩]
    rw[if_neg h0] at hA
    rw[if_neg hn] at hB
    have e1:(List.map intCs [old,0]).length=2:=rfl
    have e2:(List.map intCs [next,0]).length=2:=rfl
    have e3:(List.map intCs [old]).length=1:=rfl
    have e4:(List.map intCs [next]).length=1:=rfl
    repeat' ((conv=>whnf);(first
     |refine Fn.use (h1) rfl rfl ?_
     |refine Fn.use (hA) rfl rfl ?_
     |refine Fn.use (hB) rfl rfl ?_))
    refine W_loop (fun μ s=>(μ=1∧s=⟨[(2,.i next),(4,.ptr 0 0),(7,.d (ints [old,0])),(8,.d (ints [next,0]))],82,[some (.row [.i old])],0,[]⟩)∨(μ=0∧s=⟨[(2,.i next),(4,.ptr 0 0),(7,.d (ints [old])),(8,.d (ints [next]))],82,[some (.row [.i old])],0,[]⟩)) 1 ⟨_,?_,(.inl ⟨rfl,rfl⟩)⟩ ?_
    ·exact Wk_env (by repeat (first|exact trivial|refine⟨rfl,?_⟩))
    rintro μ s1 (⟨rfl,rfl⟩|⟨rfl,rfl⟩)
    ·refine W_run tt_ok ?_
     repeat' ((conv=>whnf);(first
      |refine W_draw 0 tt_ok mixed (by kernel_rfl) ?_
      |refine Idx_in _ rfl (by first|decide|simp|omega) rfl ?_
      |refine Need_in ⟨by simp,by simp,by simp,cs1⟩ ?_
      |refine Back_in _ 0 (.inr (⟨rfl,rfl⟩)) (by omega) (Wk_env (by repeat (first|exact trivial|refine⟨rfl,?_⟩)))
      |refine ArK_in (wrap_i64 (by omega) (by omega)) ?_))
    refine W_run tt_ok ?_
    repeat' ((conv=>whnf);(first
     |refine Br_false (beqF (by omega)) ?_
     |refine Len_in (fun hlen=>?_)
     |refine W_draw 0 tt_ok mixed (by kernel_rfl) ?_
     |refine Idx_in _ rfl (by first|decide|simp|omega) rfl ?_
     |refine ArK_in (wrap_i64 (by omega) (by omega)) ?_))
    refine W_loop (fun μ s=>(μ=1∧s=⟨[(2,.i next),(4,.ptr 0 0),(8,.d (ints [next])),(9,.ptr 1 0),(58,.d (ints [old])),(59,.i 1),(60,.i 0)],82,[some (.row [.i old]),some (.row [.nsl])],0,[]⟩)∨(μ=0∧s=⟨[(2,.i next),(4,.ptr 0 0),(8,.d (ints [next])),(9,.ptr 1 0),(58,.d (ints [old])),(59,.i 1),(60,.i 1)],82,[some (.row [.i old]),some (.row [.msl 2 0 2 2 6]),some (.row (((pairR 1 3 old next).map Ev.cs).flatten.map .d))],0,[]⟩)) 1 ⟨_,?_,.inl ⟨rfl,rfl⟩⟩ ?_
    ·exact Wk_env (by repeat (first|exact trivial|refine⟨rfl,?_⟩))
    rintro μ s1 (⟨rfl,rfl⟩|⟨rfl,rfl⟩)
    ·refine W_run tt_ok ?_
     repeat' ((conv=>whnf);(first
      |refine App_nsl ((pairR 1 3 old next).map Ev.cs) rfl rfl (by simp[pairR]) cs6e (by simp[pairR]) (Nat.le_of_ble_eq_true rfl) ?_
      |refine W_draw 0 tt_ok mixed (by kernel_rfl) ?_
      |refine Idx_in _ rfl (by first|decide|simp|omega) rfl ?_
      |refine CallF_in (hp1) rfl rfl ?_
      |refine Back_in _ 0 (.inr ⟨rfl,rfl⟩) (by omega) (Wk_env (by repeat (first|exact trivial|refine⟨rfl,?_⟩)))
      |refine ArK_in (wrap_i64 (by omega) (by omega)) ?_))
    refine W_run tt_ok ?_
    repeat' ((conv=>whnf);(first
     |refine Tri.call (back_int [next]) [] rfl rfl trivial rfl rfl rfl rfl rfl rfl ?_))
    refine W_rangeG [3] (fs0:=[]) (cs0:=[.ptr 0 0]) (H0:=[some (.row [.d (ints [next])])]) (ps:=[73,74]) (backXs AV.i [next]) (fun k H=>(k=0∧H=[some (.row [.i old]),some (.row [.msl 2 0 2 2 6]),some (.row (((pairR 1 3 old next).map Ev.cs).flatten.map .d)),none,some .dfr])∨(k=1∧H=[some (.row [.i old]),some (.row [.msl 5 0 4 4 6]),none,none,some .dfr,some (.row (((pairR 1 3 old next).map Ev.cs++(pairR 0 2 next old).map Ev.cs).flatten.map .d))])) (fun _ _=>False) rfl rfl rfl
     (by repeat (first|exact trivial|refine⟨⟨rfl,rfl⟩,?_⟩)) rfl rfl rfl rfl (by decide) rfl (backXs_args AV.i (fun _=>rfl) [next]) (fun _ H=>H=[some (.row [.d (ints [next])]),none]) (fun Y hx hY=>back_seq [next] Y hx hY) (.inl ⟨rfl,rfl⟩) ?_ ?_ ?_
    ·rintro lp k x H' hx hJ hlen hY
     obtain ⟨rfl,rfl⟩:k=0∧x=.tup [.i 0,.i next]:=by
      have hk:=(List.getElem?_eq_some_iff.1 hx).1
      rw[backXs_len] at hk
      simp at hk
      subst hk
      rw[backXs_get AV.i [next] (by simp)] at hx
      simp at hx
      exact⟨rfl,hx.symm⟩
     rcases hJ with ⟨_,rfl⟩|⟨h,_⟩
     rotate_left
     ·simp at h
     refine W_run tt_ok ?_
     skip
     refine Need_in rfl ?_
     refine W_run tt_ok ?_
     repeat' ((conv=>whnf);(first
      |refine App_msl ((pairR 1 3 old next).map Ev.cs) ((pairR 0 2 next old).map Ev.cs) (by simp[pairR]) (by simp[pairR]) rfl rfl rfl rfl (by simp[pairR]) cs6e cs6e (by simp[pairR]) (Nat.le_of_ble_eq_true rfl) ?_
      |refine W_draw 0 tt_ok mixed (by kernel_rfl) ?_
      |refine CallF_in (hp2) rfl rfl ?_))
     conv=>whnf
     exact Rd_next [some (.row [.i old]),some (.row [.msl 5 0 4 4 6]),none,none,some .dfr,some (.row (((pairR 1 3 old next).map Ev.cs++(pairR 0 2 next old).map Ev.cs).flatten.map .d))] (Wk_env (by repeat (first|exact trivial|refine⟨rfl,?_⟩))) rfl (Nat.le_of_ble_eq_true rfl) (.inr ⟨rfl,rfl⟩)
    ·rintro H' H1 hJ rfl _ _
     rcases hJ with ⟨h,_⟩|⟨_,rfl⟩
     ·simp[backXs_len] at h
     skip
     conv=>whnf
     exact finD (F:=[5]) (FV_tab (sz:=6) ((pairR 1 3 old next).map Ev.cs++(pairR 0 2 next old).map Ev.cs) rfl rfl rfl (by intro r hr;rcases List.mem_append.1 hr with hr|hr <;> exact cs6e r hr))
    ·intro e H' H1 c _ h
     exact h.elim
end Go.Eng
namespace Go.Eng
open Go Go.Proofs
theorem back_stp (l:List Stp):Tri Tryz.prog 396 [.d (.sl (l.map Stp.cs))] [] fun v H=>v=.clos (.func 424) [] [.ptr 0 0]∧H=[some (.row [.d (.sl (l.map Stp.cs))])]:=by
 refine Tri_of (m:=0) tt_ok Tryz.func396 rfl (by decide) Tryz.ntmps396 (by rfl) rfl ?_
 repeat' ((conv=>whnf);(first
  |refine finR ?_))
 rfl
def stpA (s:Stp):AV:=aggD s.cs
theorem stpA_dat (s:Stp):dat (stpA s)=true:=rfl
theorem back_sseq (l:List Stp) (Y:Ysp) (hx:Y.xs=backXs stpA l) (hY:YLaw Tryz.prog Y):
  Tri Tryz.prog 424 ([]++[.clos (.yield Y.l) [] []]++[.ptr 0 0]) ([some (.row [.d (.sl (l.map Stp.cs))])]++[some (.yl Y 0)]) fun v H1=>noY (H1.set 1 none)=true∧
   ((H1[1]? =some (some (.yl Y (backXs stpA l).length))∧H1.set 1 none=[some (.row [.d (.sl (l.map Stp.cs))]),none])∨(H1[1]? =some (some (.yz Y))∧H1.set 1 none=[some (.row [.d (.sl (l.map Stp.cs))]),none])):=by
 rw[backXs_len]
 refine Tri_of (m:=2) tt_ok Tryz.func424 rfl (by decide) Tryz.ntmps424 (by rfl) rfl ?_
 have hkl:(List.map Stp.cs l).length=l.length:=by simp
 repeat' ((conv=>whnf);(first
  |refine Len_in (fun hlen=>?_)
  |refine ArK_in (wrap_i64 (by omega) (by omega)) ?_))
 refine W_loop (fun μ s=> ∃(k:Nat),k≤l.length∧μ=l.length-k∧
   s=⟨[(0,.clos (.yield Y.l) [] []),(1,.ptr 0 0),(3,.i ((l.length:Int)-1-(k:Int)))],19,[some (.row [.d (.sl (l.map Stp.cs))]),some (.yl Y k)],2,[]⟩) l.length
  ⟨_,?_,0,by omega,by omega,rfl⟩ ?_
 ·refine Wk_env ⟨rfl,rfl,?_,trivial⟩
  show AV.i (((List.map Stp.cs l).length:Int)-1)=AV.i _
  rw[hkl]
  simp
 rintro μ s1 ⟨k,hk,rfl,rfl⟩
 refine W_run tt_ok ?_
 by_cases hlt:k<l.length
 ·have hat:(l.map Stp.cs)[((l.length:Int)-1-(k:Int)).toNat]? =some (l.reverse[k]'(by simpa using hlt)).cs:=by rw[List.getElem?_map,rev_at hlt];rfl
  have hxk:=backXs_get stpA l hlt
  rw[← hx] at hxk
  have e:(l.length:Int)-1-(k:Int)-1=(l.length:Int)-1-((k+1:Nat):Int):=by omega
  generalize l.reverse[k]'(by simpa using hlt)=c at *
  repeat' ((conv=>whnf);(first
   |refine Br_true (decide_eq_true (by omega)) ?_
   |refine Idx_in _ hat (by omega) rfl ?_
   |refine Yield_in 1 Y k (.tup [.i ((l.length:Int)-1-(k:Int)),stpA c]) rfl rfl hY rfl rfl hxk ?_ ?_
   |refine Back_in _ _ ⟨k+1,by omega,rfl,rfl⟩ (by omega) ?_
   |refine finQ ⟨rfl,.inr ⟨rfl,rfl⟩⟩
   |refine ArK_in (wrap_i64 (by omega) (by omega)) ?_))
  refine Wk_env ⟨rfl,rfl,?_,trivial⟩
  show AV.i ((l.length:Int)-1-(k:Int)-1)=AV.i _
  rw[e]
 ·have hkl2:k=l.length:=by omega
  subst hkl2
  repeat' ((conv=>whnf);(first
   |refine Br_false (decide_eq_false (by omega)) ?_
   |refine finQ ⟨rfl,.inl ⟨rfl,rfl⟩⟩))
def visB (e:Ev) (s:Stp):Bool:=e.bubbles||s.node==s.target
def visR (e:Ev) (L:List Stp):List (List D):=(L.reverse.map fun s=>visC s 1)++(L.filter (visB e)).map fun s=>visC s 3
theorem cs5v {l:List Stp} {p:Int}: ∀r∈l.map (fun s=>visC s p),r.length=5:=by
 intro r hr;obtain ⟨x,_,rfl⟩:=List.mem_map.1 hr;rfl
abbrev visH (e:Ev) (R:List (List D)):Heap:=[some (.row (e.cs.map .d)),some (.row [AccV 4 5 R]),none,some .dfr]
theorem aim_Visits (t:Tree) (e:Ev) (f:Nat) (L:List Stp) (hlen:L.length≤1000) (h:(allOk t e.target=false∧L=[])∨(allOk t e.target=true∧pathO t e f e.target=some L)):
  Fn Tryz.prog 360 [.d (treeD t),aggD e.cs] (.d (.sl (visR e L))):=by
 refine Fn_of tt_ok Tryz.func360 rfl (by decide) Tryz.ntmps360 rfl ?_
 have hP:=aim_Path t e f L hlen h
 have hml:(L.map Stp.cs).length=L.length:=by simp
 repeat' ((conv=>whnf);(first
  |refine Fn.use (hP) rfl rfl ?_
  |refine Tri.call (back_stp L) [] rfl rfl trivial rfl rfl rfl rfl rfl rfl ?_))
 refine W_rangeG [2] (fs0:=[]) (cs0:=[.ptr 0 0]) (H0:=[some (.row [.d (.sl (L.map Stp.cs))])]) (ps:=[17,18]) (backXs stpA L)
  (fun k H=>(k=0∧H=visH e [])∨(0<k∧H=visH e ((L.reverse.take k).map fun s=>visC s 1)++[AccB ((L.reverse.take k).map fun s=>visC s 1)])) (fun _ _=>False) rfl rfl rfl
  (by repeat (first|exact trivial|refine⟨⟨rfl,rfl⟩,?_⟩)) rfl rfl rfl rfl (by decide) rfl (backXs_args stpA stpA_dat L) (fun _ H=>H=[some (.row [.d (.sl (L.map Stp.cs))]),none]) (fun Y hx hY=>back_sseq L Y hx hY) (.inl ⟨rfl,by unfold visH;rw[AccV_nil];rfl⟩) ?_ ?_ ?_
 ·rintro lp k x H' hx hJ hl hY
  have hk:k<L.length:=by have:=(List.getElem?_eq_some_iff.1 hx).1;rwa [backXs_len] at this
  rw[backXs_get stpA L hk] at hx
  injection hx with hx
  subst hx
  have hkr:k<L.reverse.length:=by simpa using hk
  have htk:(L.reverse.take (k+1)).map (fun s=>visC s 1)=(L.reverse.take k).map (fun s=>visC s 1)++[visC (L.reverse[k]'hkr) 1]:=by rw[List.take_succ_eq_append_getElem hkr];simp
  have hrl:((L.reverse.take k).map fun s=>visC s 1).length=k:=by simp;omega
  refine W_padH (H2:=visH e ((L.reverse.take k).map fun s=>visC s 1)++[AccB ((L.reverse.take k).map fun s=>visC s 1)]) ?_ ?_
  ·rcases hJ with ⟨rfl,rfl⟩|⟨_,rfl⟩
   ·exact .inr (by rw[List.take_zero,List.map_nil,AccB_nil])
   ·exact .inl rfl
  have hr5: ∀r∈(L.reverse.take k).map (fun s=>visC s 1),r.length=5:=cs5v
  generalize hrw:(L.reverse.take k).map (fun s=>visC s 1)=rows at *
  generalize L.reverse[k]'hkr=c at *
  have ha:=Acc_app (b:=4) (sz:=5) (rows:=rows) (new:=[visC c 1]) (by simp)
  have hv:=aim_visit c 1
  refine W_run tt_ok ?_
  skip
  refine Need_in (by by_cases h0:rows=[];all_goals first|(subst h0;rw[AccB_nil];rfl)|(rw [AccB_cons h0];rfl)) ?_
  refine W_run tt_ok ?_
  repeat' ((conv=>whnf);(first
   |(refine App_acc rows [visC c 1] rfl rfl rfl rfl (by simp) hr5 (by intro r hr;simp at hr;subst hr;rfl) (by rw[hrl];simp only[List.length_cons,List.length_nil];omega) (Nat.le_of_ble_eq_true rfl) ?_)
   |refine W_draw 0 tt_ok mixed (by kernel_rfl) ?_
   |refine CallF_in (hv) rfl rfl ?_
   |refine force_in ?_))
  conv=>whnf
  refine Rd_next (visH e (rows++[visC c 1])++[AccB (rows++[visC c 1])]) ?_ ?_ (Nat.le_of_ble_eq_true rfl) (.inr ⟨by omega,by rw[htk]⟩)
  ·rw[show visH e (rows++[visC c 1])=[some (.row (e.cs.map .d)),some (.row [.msl 4 0 (rows.length+1) (rows.length+1) 5]),none,some .dfr] by unfold visH;rw[ha.1];rfl,ha.2]
   exact Wk_ren [0,1,2,3,6] rfl rfl ⟨⟨rfl,rfl⟩,⟨rfl,rfl⟩,⟨rfl,rfl⟩,⟨by rw[renB_row];rfl,lowB_row _ _⟩,trivial⟩ trivial (by show 4≤5;decide) (by show∀i,i<4→gOf [0,1,2,3,6] i=i;decide)
  ·rw[ha.2];rfl
 ·rintro H' H1 hJ rfl hl hY
  rw[backXs_len] at hJ
  have hT:(L.reverse.take L.length).map (fun s=>visC s 1)=L.reverse.map fun s=>visC s 1:=by rw[List.take_of_length_le (by simp)]
  rw[hT] at hJ
  unfold visR
  have hrl:(L.reverse.map fun s=>visC s 1).length=L.length:=by simp
  have hr5: ∀r∈L.reverse.map (fun s=>visC s 1),r.length=5:=cs5v
  have hJ':(L.reverse.map (fun s=>visC s 1)=[]∧H'=visH e [])∨H'=visH e (L.reverse.map fun s=>visC s 1)++[AccB (L.reverse.map fun s=>visC s 1)]:=by
   rcases hJ with ⟨h0,h1⟩|⟨_,h1⟩
   ·exact .inl ⟨by rw[List.eq_nil_of_length_eq_zero h0];rfl,h1⟩
   ·exact .inr h1
  generalize L.reverse.map (fun s=>visC s 1)=R1 at *
  repeat' ((conv=>whnf);(first
   |refine Len_in (fun hlen=>?_)))
  refine W_loop (fun μ s=> ∃(k:Nat),k≤L.length∧μ=L.length-k∧
   s=⟨[(3,.ptr 0 0),(5,.ptr 1 0),(24,.d (.sl (L.map Stp.cs))),(25,.i (L.map Stp.cs).length),(26,.i k)],45,visH e (R1++((L.take k).filter (visB e)).map fun s=>visC s 3)++[AccB (R1++((L.take k).filter (visB e)).map fun s=>visC s 3)],0,[.mk 3]⟩) L.length ⟨_,?_,0,by omega,by omega,rfl⟩ ?_
  ·rw[List.take_zero,List.filter_nil,List.map_nil,List.append_nil]
   rcases hJ' with ⟨rfl,rfl⟩|rfl
   ·refine Wk.trans Wk_pad ?_
    rw[AccB_nil]
    exact Wk_renD [0,1,2,3,4] rfl rfl ⟨⟨rfl,rfl⟩,HLe_cell rfl rfl (by decide) ⟨⟨rfl,rfl⟩,trivial⟩⟩ (by repeat (first|exact trivial|refine⟨⟨rfl,rfl⟩,?_⟩)) (by decide) (by omega) rfl
   ·exact Wk_renD [0,1,2,3,4] rfl rfl ⟨⟨rfl,rfl⟩,HLe_cell rfl rfl (by decide) ⟨⟨rfl,rfl⟩,HLe_acc rfl trivial⟩⟩ (by repeat (first|exact trivial|refine⟨⟨rfl,rfl⟩,?_⟩)) (by decide) (by omega) rfl
  rintro μ s1 ⟨k,hk,rfl,rfl⟩
  refine W_run tt_ok ?_
  have hfl:((L.take k).filter (visB e)).length≤L.length:=Nat.le_trans (List.length_filter_le _ _) (by simp;omega)
  have hR5: ∀r∈R1++((L.take k).filter (visB e)).map (fun s=>visC s 3),r.length=5:=fun r hr=>by
   rcases List.mem_append.1 hr with hr|hr
   ·exact hr5 r hr
   ·exact cs5v r hr
  have hRl:(R1++((L.take k).filter (visB e)).map fun s=>visC s 3).length≤2000:=by rw[List.length_append,List.length_map];omega
  by_cases hlt:k<L.length
  ·have hidx:(L.map Stp.cs)[(k:Int).toNat]? =some (L[k]).cs:=by simp[hlt]
   have htk:L.take (k+1)=L.take k++[L[k]]:=List.take_succ_eq_append_getElem hlt
   have e1:visB e L[k]=true→R1++((L.take (k+1)).filter (visB e)).map (fun s=>visC s 3)=(R1++((L.take k).filter (visB e)).map fun s=>visC s 3)++[visC L[k] 3]:=fun h=>by rw[htk,List.filter_append,List.map_append,List.append_assoc];simp[h]
   have e0:visB e L[k]=false→R1++((L.take (k+1)).filter (visB e)).map (fun s=>visC s 3)=R1++((L.take k).filter (visB e)).map fun s=>visC s 3:=fun h=>by rw[htk,List.filter_append];simp[h]
   generalize R1++((L.take k).filter (visB e)).map (fun s=>visC s 3)=R at *
   have hv:=aim_visit L[k] 3
   generalize L[k]=c at *
   have ha:=Acc_app (b:=4) (sz:=5) (rows:=R) (new:=[visC c 3]) (by simp)
   have fin: ∀(ρ:Env) (x y:List AV),visB e c=true→EnvIn ρ [(3,.ptr 0 0),(5,.ptr 1 0),(24,.d (.sl (L.map Stp.cs))),(25,.i (L.map Stp.cs).length),(26,.i (k+1:Nat))]→
     Wk ⟨ρ,45,[some (.row (e.cs.map .d)),some (.row [.msl 7 0 (R.length+1) (R.length+1) 5]),none,some .dfr,none,some (.row x),some (.row y),some (.row ((R++[visC c 3]).flatten.map .d))],0,[.mk 3]⟩
      ⟨[(3,.ptr 0 0),(5,.ptr 1 0),(24,.d (.sl (L.map Stp.cs))),(25,.i (L.map Stp.cs).length),(26,.i (k+1:Nat))],45,visH e (R1++((L.take (k+1)).filter (visB e)).map fun s=>visC s 3)++[AccB (R1++((L.take (k+1)).filter (visB e)).map fun s=>visC s 3)],0,[.mk 3]⟩:=fun ρ x y hb hρ=>by
    refine Wk.trans (Wk_env hρ) ?_
    rw[e1 hb,ha.2,show visH e (R++[visC c 3])=[some (.row (e.cs.map .d)),some (.row [.msl 4 0 (R.length+1) (R.length+1) 5]),none,some .dfr] by unfold visH;rw[ha.1];rfl]
    exact Wk_renD [0,1,2,3,7] rfl rfl ⟨⟨rfl,rfl⟩,⟨rfl,rfl⟩,⟨rfl,rfl⟩,⟨by rw[renB_row];rfl,lowB_row _ _⟩,trivial⟩ (by repeat (first|exact trivial|refine⟨⟨rfl,rfl⟩,?_⟩)) (by decide) (by omega) rfl
   have fin0: ∀(ρ:Env) (x y:List AV),visB e c=false→EnvIn ρ [(3,.ptr 0 0),(5,.ptr 1 0),(24,.d (.sl (L.map Stp.cs))),(25,.i (L.map Stp.cs).length),(26,.i (k+1:Nat))]→
     Wk ⟨ρ,45,[some (.row (e.cs.map .d)),some (.row [AccV 4 5 R]),none,some .dfr,AccB R,some (.row x),some (.row y)],0,[.mk 3]⟩
      ⟨[(3,.ptr 0 0),(5,.ptr 1 0),(24,.d (.sl (L.map Stp.cs))),(25,.i (L.map Stp.cs).length),(26,.i (k+1:Nat))],45,visH e (R1++((L.take (k+1)).filter (visB e)).map fun s=>visC s 3)++[AccB (R1++((L.take (k+1)).filter (visB e)).map fun s=>visC s 3)],0,[.mk 3]⟩:=fun ρ x y hb hρ=>by
    refine Wk.trans (Wk_env hρ) ?_
    rw[e0 hb]
    exact Wk_renD [0,1,2,3,4] rfl rfl ⟨⟨rfl,rfl⟩,HLe_cell rfl rfl (by decide) ⟨⟨rfl,rfl⟩,HLe_acc rfl trivial⟩⟩ (by repeat (first|exact trivial|refine⟨⟨rfl,rfl⟩,?_⟩)) (by decide) (by omega) rfl
   obtain ⟨n,tg,rl⟩:=c
   obtain ⟨ety,etg,ere,ebu,eca,eco⟩:=e
   dsimp only[Stp.cs,Ev.cs] at *
   cases ebu
   ·by_cases hnt:n=tg
    ·have hb:visB ⟨ety,etg,ere,false,eca,eco⟩ ⟨n,tg,rl⟩=true:=by simp[visB,hnt]
     have hph:(if n=tg then (2:Int) else 3)=2:=if_pos hnt
     have hq:visC ⟨n,tg,rl⟩ 3=[.int .i64 n,.int .i64 tg,.int .i64 rl,.int .i64 2,.bool false]:=by unfold visC;rw[hph];rfl
     rw[hq] at hv fin ha
     repeat' ((conv=>whnf);(first
      |refine Br_true (decide_eq_true (by omega)) ?_
      |refine Idx_in _ hidx (by omega) rfl ?_
      |refine Fn.use (hv) rfl rfl ?_
      |refine force_in ?_))
     refine Ch_r ?_
     conv=>whnf
     refine App_acc R [[.int .i64 n,.int .i64 tg,.int .i64 rl,.int .i64 2,.bool false]] rfl rfl rfl rfl (by simp) hR5 (by intro r hr;simp at hr;subst hr;rfl) (by simp only[List.length_cons,List.length_nil];omega) (Nat.le_of_ble_eq_true rfl) ?_
     repeat' ((conv=>whnf);(first
      |refine Back_in _ _ ⟨k+1,by omega,rfl,rfl⟩ (by omega) ?_
      |refine ArK_in (wrap_i64 (by omega) (by omega)) ?_))
     exact fin _ _ _ hb (by repeat (first|exact trivial|refine⟨rfl,?_⟩))
    ·have hb:visB ⟨ety,etg,ere,false,eca,eco⟩ ⟨n,tg,rl⟩=false:=by simp[visB,hnt]
     have hph:(if n=tg then (2:Int) else 3)=3:=if_neg hnt
     have hq:visC ⟨n,tg,rl⟩ 3=[.int .i64 n,.int .i64 tg,.int .i64 rl,.int .i64 3,.bool false]:=by unfold visC;rw[hph];rfl
     rw[hq] at hv
     repeat' ((conv=>whnf);(first
      |refine Br_true (decide_eq_true (by omega)) ?_
      |refine Idx_in _ hidx (by omega) rfl ?_
      |refine Fn.use (hv) rfl rfl ?_
      |refine Back_in _ _ ⟨k+1,by omega,rfl,rfl⟩ (by omega) ?_
      |refine ArK_in (wrap_i64 (by omega) (by omega)) ?_))
     exact fin0 _ _ _ hb (by repeat (first|exact trivial|refine⟨rfl,?_⟩))
   ·have hb:visB ⟨ety,etg,ere,true,eca,eco⟩ ⟨n,tg,rl⟩=true:=by simp[visB]
    by_cases hnt:n=tg
    ·have hph:(if n=tg then (2:Int) else 3)=2:=if_pos hnt
     have hq:visC ⟨n,tg,rl⟩ 3=[.int .i64 n,.int .i64 tg,.int .i64 rl,.int .i64 2,.bool false]:=by unfold visC;rw[hph];rfl
     rw[hq] at hv fin ha
     repeat' ((conv=>whnf);(first
      |refine Br_true (decide_eq_true (by omega)) ?_
      |refine Idx_in _ hidx (by omega) rfl ?_
      |refine Fn.use (hv) rfl rfl ?_
      |refine force_in ?_))
     refine Ch_r ?_
     conv=>whnf
     refine App_acc R [[.int .i64 n,.int .i64 tg,.int .i64 rl,.int .i64 2,.bool false]] rfl rfl rfl rfl (by simp) hR5 (by intro r hr;simp at hr;subst hr;rfl) (by simp only[List.length_cons,List.length_nil];omega) (Nat.le_of_ble_eq_true rfl) ?_
     repeat' ((conv=>whnf);(first
      |refine Back_in _ _ ⟨k+1,by omega,rfl,rfl⟩ (by omega) ?_
      |refine ArK_in (wrap_i64 (by omega) (by omega)) ?_))
     exact fin _ _ _ hb (by repeat (first|exact trivial|refine⟨rfl,?_⟩))
    ·have hph:(if n=tg then (2:Int) else 3)=3:=if_neg hnt
     have hq:visC ⟨n,tg,rl⟩ 3=[.int .i64 n,.int .i64 tg,.int .i64 rl,.int .i64 3,.bool false]:=by unfold visC;rw[hph];rfl
     rw[hq] at hv fin ha
     repeat' ((conv=>whnf);(first
      |refine Br_true (decide_eq_true (by omega)) ?_
      |refine Idx_in _ hidx (by omega) rfl ?_
      |refine Fn.use (hv) rfl rfl ?_
      |refine force_in ?_))
     refine Ch_r ?_
     conv=>whnf
     refine App_acc R [[.int .i64 n,.int .i64 tg,.int .i64 rl,.int .i64 3,.bool false]] rfl rfl rfl rfl (by simp) hR5 (by intro r hr;simp at hr;subst hr;rfl) (by simp only[List.length_cons,List.length_nil];omega) (Nat.le_of_ble_eq_true rfl) ?_
     repeat' ((conv=>whnf);(first
      |refine Back_in _ _ ⟨k+1,by omega,rfl,rfl⟩ (by omega) ?_
      |refine ArK_in (wrap_i64 (by omega) (by omega)) ?_))
     exact fin _ _ _ hb (by repeat (first|exact trivial|refine⟨rfl,?_⟩))
  ·have hkl:k=L.length:=by omega
   subst hkl
   rw[List.take_length]
   rw[List.take_length] at hR5
   generalize R1++(L.filter (visB e)).map (fun s=>visC s 3)=R at *
   repeat' ((conv=>whnf);(first
    |refine Br_false (decide_eq_false (by omega)) ?_
    |refine force_in ?_))
   conv=>whnf
   exact finD (F:=[4]) (FV_acc _ rfl hR5)
 ·intro e2 H' H1 c _ h
  exact h.elim
end Go.Eng
namespace Go.Eng
open Go Go.Proofs
structure Vst where
 node:Int
 target:Int
 related:Int
 phase:Int
 capture:Bool
instance:Inhabited Vst:=⟨⟨0,0,0,0,false⟩⟩
def Vst.cs (v:Vst):List D:=[.int .i64 v.node,.int .i64 v.target,.int .i64 v.related,.int .i64 v.phase,.bool v.capture]
def visV (s:Stp) (phase:Int):Vst:=⟨s.node,s.target,s.related,if s.node=s.target then 2 else phase,phase==1⟩
def visL (e:Ev) (L:List Stp):List Vst:=(L.reverse.map fun s=>visV s 1)++(L.filter (visB e)).map fun s=>visV s 3
theorem visL_cs (e:Ev) (L:List Stp):(visL e L).map Vst.cs=visR e L:=by
 unfold visL visR
 rw[List.map_append,List.map_map,List.map_map]
 rfl
theorem cs5w {l:List Vst}: ∀r∈l.map Vst.cs,r.length=5:=by
 intro r hr;obtain ⟨x,_,rfl⟩:=List.mem_map.1 hr;rfl
abbrev vstD (l:List Vst):D:=.sl (l.map Vst.cs)
def runC (e:Ev) (vs:List Vst) (at_:Vst) (tk:List Hear) (st ca:Bool):List D:=e.cs++(vstD vs::(at_.cs++[hearsD tk,.bool st,.bool ca]))
def vst0:Vst:=⟨0,0,0,0,false⟩
theorem fire_New (t:Tree) (e:Ev) (hm:mayB t=true) (hn:isN t e.target=true) (f:Nat) (L:List Stp) (hlen:L.length≤1000) (h:pathO t e f e.target=some L):
  Tri Tryz.prog 295 [.d (treeD t),aggD e.cs] [] fun v H=>v=.ptr 0 0∧H=[some (.row ((runC e (visL e L) vst0 [] false false).map .d))]:=by
 refine Tri_of (m:=0) tt_ok Tryz.func295 rfl (by decide) Tryz.ntmps295 (by rfl) rfl ?_
 have h1:=tree_Check t
 rw[hm] at h1
 have ha:allOk t e.target=true:=by unfold allOk;rw[hm,hn];rfl
 have h2:=aim_Visits t e f L hlen (.inr ⟨ha,h⟩)
 rw[← visL_cs] at h2
 have e7:(List.map Node.cs t).length=t.length:=by simp
 have hp:=nd_pos hn
 have hl:=(nd_get hn).1
 repeat' ((conv=>whnf);(first
  |refine Br_false (decide_eq_false (by omega)) ?_
  |refine Len_in (fun hlen=>?_)
  |refine Fn.use (h1) rfl rfl ?_
  |refine W_draw 0 tt_ok mixed (by kernel_rfl) ?_
  |refine CallF_in (h2) rfl rfl ?_))
 all_goals (try (exfalso;omega))
 conv=>whnf
 exact finW (v':=.ptr 0 0) (H':=[some (.row ((runC e (visL e L) vst0 [] false false).map .d))]) (Fin_fz [1] [] rfl rfl rfl ⟨⟨_,rfl,FB_rows ⟨.same _ rfl,.same _ rfl,.same _ rfl,.same _ rfl,.same _ rfl,.same _ rfl,.same _ rfl,.same _ rfl,.same _ rfl,.same _ rfl,.same _ rfl,.same _ rfl,.nsl,.same _ rfl,.same _ rfl,trivial⟩⟩,trivial⟩ (.ptr 1 0 0 rfl) (Nat.zero_le _) (by omega)) ⟨rfl,rfl⟩
def thereB (l:List Hear) (h:Hear):Bool:=l.any (withB h)
theorem fire_there1 (h x:Hear):Tri Tryz.prog 399 ([]++[aggD x.cs]++[.ptr 0 0]) [some (.row (h.cs.map .d))] fun v H'=>v=.b (withB h x)∧H'=[some (.row (h.cs.map .d))]:=by
 refine Tri_of (m:=1) tt_ok Tryz.func399 rfl (by decide) Tryz.ntmps399 (by rfl) rfl ?_
 repeat' ((conv=>whnf);(first
  |refine finT rfl rfl (by repeat (first|exact trivial|refine⟨⟨rfl,rfl⟩,?_⟩)) ?_))
 rfl
theorem fire_there (l:List Hear) (h:Hear):Fn Tryz.prog 361 [.d (hearsD l),aggD h.cs] (.b (thereB l h)):=by
 refine Fn_of tt_ok Tryz.func361 rfl (by decide) Tryz.ntmps361 rfl ?_
 have hi:=indexFunc_hear l 399 [] [.ptr 0 0] [some (.row (h.cs.map .d))] (withB h) fun a _=>fire_there1 h a
 have hc:Tri Tryz.prog 398 [.d (hearsD l),.clos (.func 399) [] [.ptr 0 0]] [some (.row (h.cs.map .d))] fun v H'=>v=.b (thereB l h)∧H'=[some (.row (h.cs.map .d))]:=by
  refine Tri_of (m:=1) tt_ok Tryz.func398 rfl (by decide) Tryz.ntmps398 (by rfl) rfl ?_
  have:=ix_any (withB h) l
  unfold thereB
  rw[← this]
  generalize ix (withB h) l=i at *
  repeat' ((conv=>whnf);(first
   |refine Tri.use hi ?_
   |refine finR ?_))
  rfl
 repeat' ((conv=>whnf);(first
  |refine Tri.use hc ?_
  |refine fin0 rfl ?_))
 rfl
theorem fire_Cancelled (e:Ev) (vs:List Vst) (at_:Vst) (tk:List Hear) (st ca:Bool):Tri Tryz.prog 299 [.ptr 0 0] [some (.row ((runC e vs at_ tk st ca).map .d))] fun v H=>v=.b ca∧H=[some (.row ((runC e vs at_ tk st ca).map .d))]:=by
 refine Tri_of (m:=1) tt_ok Tryz.func299 rfl (by decide) Tryz.ntmps299 (by rfl) rfl ?_
 repeat' ((conv=>whnf);(first
  |refine finR ?_))
 rfl
theorem fire_Tell (e:Ev) (vs:List Vst) (at_:Vst) (tk:List Hear) (st ca a1 a2 a3:Bool):Tri Tryz.prog 297 [.ptr 0 0,aggD [.bool a1,.bool a2,.bool a3]] [some (.row ((runC e vs at_ tk st ca).map .d))] fun v H=>v=.tup []∧
  H=[some (.row ((runC e vs at_ (if a2 then [] else tk) (st||(a1||a2)) (ca||(a3&&e.cancel))).map .d))]:=by
 refine Tri_of (m:=1) tt_ok Tryz.func297 rfl (by decide) Tryz.ntmps297 (by rfl) rfl ?_
 obtain ⟨ety,etg,ere,ebu,eca,eco⟩:=e
 cases st <;> cases ca <;> cases a1 <;> cases a2 <;> cases a3
 all_goals skip
 all_goals conv=>whnf
 all_goals exact finW (v':=.tup []) (H':=[some (.row ((runC _ vs at_ _ _ _).map .d))]) (Fin_fz [0] [] rfl rfl rfl ⟨⟨_,rfl,FB_rows ⟨.same _ rfl,.same _ rfl,.same _ rfl,.same _ rfl,.same _ rfl,.same _ rfl,.same _ rfl,.same _ rfl,.same _ rfl,.same _ rfl,.same _ rfl,.same _ rfl,(by first|exact .same _ rfl|exact .nsl),.same _ rfl,.same _ rfl,trivial⟩⟩,trivial⟩ (.same _ rfl) (by decide) (by intro i hi;match i,hi with|0,_=>rfl)) ⟨rfl,rfl⟩
end Go.Eng
namespace Go.Eng
open Go Go.Proofs
def nextR (l:List Hear) (ty:Int) (st:Bool):List Vst→Vst→List Hear→Option Hear×List Vst×Vst×List Hear
 |[],at_,tk=>match tk.dropWhile fun h=> !thereB l h with
  |h::tk'=>(some h,[],at_,tk')
  |[]=>(none,[],at_,[])
 |v::vs,at_,tk=>match tk.dropWhile fun h=> !thereB l h with
  |h::tk'=>(some h,v::vs,at_,tk')
  |[]=>if st then (none,v::vs,at_,[]) else nextR l ty st vs v (l.filter (forB v.node ty v.capture))
theorem nextR_hit {l:List Hear} {ty:Int} {st:Bool} {vs:List Vst} {at_:Vst} {tk tk':List Hear} {h:Hear} (hd:(tk.dropWhile fun h=> !thereB l h)=h::tk'):nextR l ty st vs at_ tk=(some h,vs,at_,tk'):=by
 cases vs <;> simp only[nextR,hd]
theorem nextR_end {l:List Hear} {ty:Int} {st:Bool} {vs:List Vst} {at_:Vst} {tk:List Hear} (hd:(tk.dropWhile fun h=> !thereB l h)=[]) (hs:st=true∨vs=[]):nextR l ty st vs at_ tk=(none,vs,at_,[]):=by
 cases vs with
 |nil=>simp only[nextR,hd]
 |cons v vs=>simp only[nextR,hd];rw[if_pos (hs.resolve_right (by simp))]
theorem nextR_on {l:List Hear} {ty:Int} {st:Bool} {v:Vst} {vs:List Vst} {at_:Vst} {tk:List Hear} (hd:(tk.dropWhile fun h=> !thereB l h)=[]) (hs:st=false):nextR l ty st (v::vs) at_ tk=nextR l ty st vs v (l.filter (forB v.node ty v.capture)):=by
 simp only[nextR,hd];rw[if_neg (by rw[hs];simp)]
def hOf:Option Hear→Hear
 |some h=>h
 |none=>⟨0,0,false,false,0⟩
def vOf (at_:Vst):Option Hear→Vst
 |some _=>at_
 |none=>vst0
def callC (at_:Vst) (r:Option Hear):List D:=(hOf r).cs++(vOf at_ r).cs
def runX (e:Ev) (RV:List (List D)) (at_:Vst) (TK:List (List D)) (st ca:Bool):List D:=e.cs++(.sl RV::(at_.cs++[.sl TK,.bool st,.bool ca]))
theorem tail_rows {a:List D} {l:List (List D)} {n:Int} (h:n=(a::l).length):((a::l).take n.toNat).drop (1:Int).toNat=l:=by
 rw[h,show (((a::l).length:Nat):Int).toNat=(a::l).length by simp,List.take_length]
 rfl
theorem sameD {g F:List Nat} {H:Heap} {x y:D} (h:x=y):FV g F H (.d x) (.d y):=by subst h;exact .same _ rfl
abbrev zC:List AV:=([.int .i64 0,.int .i64 0,.bool false,.bool false,.int .i64 0]++vst0.cs:List D).map .d
theorem fire_Next (e:Ev) (vs:List Vst) (at_:Vst) (tk:List Hear) (st ca:Bool) (l:List Hear) (hl:l.length≤1000) (r:Option Hear×List Vst×Vst×List Hear) (hr:nextR l e.type st vs at_ tk=r):
  Tri Tryz.prog 296 [.ptr 0 0,.d (hearsD l)] [some (.row ((runC e vs at_ tk st ca).map .d))] fun v H=>v=.tup [aggD (callC r.2.2.1 r.1),.b r.1.isSome]∧H=[some (.row ((runC e r.2.1 r.2.2.1 r.2.2.2 st ca).map .d))]:=by
 refine Tri_of (m:=1) tt_ok Tryz.func296 rfl (by decide) Tryz.ntmps296 (by rfl) rfl ?_
 refine W_scope 0 (fun _ _=>False) rfl ?_ (fun _ _ h=>h.elim)
 refine W_run tt_ok ?_
 skip
 refine W_loop (fun μ s=> ∃(vs:List Vst) (at_:Vst) (tk:List Hear) (RV TK:List (List D)),nextR l e.type st vs at_ tk=r∧μ=vs.length∧RV=vs.map Vst.cs∧TK=tk.map Hear.cs∧
   s=⟨[(0,.ptr 0 0),(1,.d (hearsD l)),(4,.ptr 1 0)],90,[some (.row ((runX e RV at_ TK st ca).map .d)),some (.row zC)],1,[]⟩) vs.length ⟨_,?_,vs,at_,tk,_,_,hr,rfl,rfl,rfl,rfl⟩ ?_
 ·exact Wk_env (by repeat (first|exact trivial|refine⟨rfl,?_⟩))
 rintro μ s1 ⟨vs1,at1,tk1,RV,TK,hr1,rfl,rfl,rfl,rfl⟩
 refine W_run tt_ok ?_
 refine W_loop (fun μ s=> ∃(tk:List Hear) (TK:List (List D)),(tk.dropWhile fun h=> !thereB l h)=(tk1.dropWhile fun h=> !thereB l h)∧μ=tk.length∧TK=tk.map Hear.cs∧
   s=⟨[(0,.ptr 0 0),(1,.d (hearsD l)),(4,.ptr 1 0)],90,[some (.row ((runX e (vs1.map Vst.cs) at1 TK st ca).map .d)),some (.row zC)],1,[]⟩) tk1.length ⟨_,?_,tk1,_,rfl,rfl,rfl,rfl⟩ ?_
 ·exact Wk_env (by repeat (first|exact trivial|refine⟨rfl,?_⟩))
 rintro μ s1 ⟨tk2,TK,hd,rfl,rfl,rfl⟩
 refine W_run tt_ok ?_
 have hkl:(List.map Hear.cs tk2).length=tk2.length:=by simp
 cases tk2 with
 |nil=>
  have hd0:(tk1.dropWhile fun h=> !thereB l h)=[]:=by rw[← hd];rfl
  have e0:(List.map Hear.cs []).length=0:=rfl
  cases vs1 with
  |nil=>
   have hq:=nextR_end (l:=l) (ty:=e.type) (st:=st) (vs:=[]) (at_:=at1) hd0 (.inr rfl)
   rw[hr1] at hq
   subst hq
   have e1:(List.map Vst.cs []).length=0:=rfl
   cases st
   all_goals repeat' ((conv=>whnf);(first
    |refine Len_in (fun hlen=>?_)
    |refine finT rfl rfl (by repeat (first|exact trivial|refine⟨⟨rfl,rfl⟩,?_⟩)) ?_))
   all_goals rfl
  |cons v vs2=>
   have e1:(List.map Vst.cs (v::vs2)).length=vs2.length+1:=by simp
   cases st
   ·have hq:=nextR_on (l:=l) (ty:=e.type) (st:=false) (v:=v) (vs:=vs2) (at_:=at1) hd0 rfl
    rw[hr1] at hq
    have hf:=listen_For l v.node e.type v.capture hl
    have hidx:(List.map Vst.cs (v::vs2))[(0:Int).toNat]? =some v.cs:=rfl
    repeat' ((conv=>whnf);(first
     |refine Len_in (fun hlen=>?_)
     |refine W_draw 0 tt_ok mixed (by kernel_rfl) ?_
     |refine Idx_in _ hidx (by omega) rfl ?_
     |refine CallF_in (hf) rfl rfl ?_
     |refine Need_in ⟨by omega,by omega,by omega,cs5w⟩ ?_
     |refine Back_in _ _ ⟨vs2,v,_,_,_,hq.symm,rfl,(by exact tail_rows rfl),rfl,rfl⟩ (by simp) (Wk_env (by repeat (first|exact trivial|refine⟨rfl,?_⟩)))))
   ·have hq:=nextR_end (l:=l) (ty:=e.type) (st:=true) (vs:=v::vs2) (at_:=at1) hd0 (.inl rfl)
    rw[hr1] at hq
    subst hq
    repeat' ((conv=>whnf);(first
     |refine Len_in (fun hlen=>?_)
     |refine finT rfl rfl (by repeat (first|exact trivial|refine⟨⟨rfl,rfl⟩,?_⟩)) ?_))
    rfl
 |cons h tk3=>
  have hth:=fire_there l h
  have hidx:(List.map Hear.cs (h::tk3))[(0:Int).toNat]? =some h.cs:=rfl
  have e1:(List.map Hear.cs (h::tk3)).length=tk3.length+1:=by simp
  cases hb:thereB l h
  ·rw[hb] at hth
   have hd':(tk3.dropWhile fun h=> !thereB l h)=tk1.dropWhile fun h=> !thereB l h:=by rw[← hd,List.dropWhile_cons];simp[hb]
   repeat' ((conv=>whnf);(first
    |refine Br_true (decide_eq_true (by omega)) ?_
    |refine Len_in (fun hlen=>?_)
    |refine Idx_in _ hidx (by omega) rfl ?_
    |refine Fn.use (hth) rfl rfl ?_
    |refine Need_in ⟨by omega,by omega,by omega,cs5h⟩ ?_
    |refine Back_in _ _ ⟨tk3,((List.map Hear.cs (h::tk3)).take ((List.map Hear.cs (h::tk3)).length:Int).toNat).drop (1:Int).toNat,hd',rfl,tail_rows rfl,rfl⟩ (by simp) ?_))
   exact Wk_ren [0,1] rfl rfl ⟨⟨rfl,rfl⟩,⟨rfl,rfl⟩,trivial⟩ ⟨⟨rfl,rfl⟩,⟨rfl,rfl⟩,⟨rfl,rfl⟩,trivial⟩ (by decide) (by intro i hi;match i,hi with|0,_=>rfl)
  ·rw[hb] at hth
   have hd':(tk1.dropWhile fun h=> !thereB l h)=h::tk3:=by rw[← hd,List.dropWhile_cons];simp[hb]
   have hq:=nextR_hit (l:=l) (ty:=e.type) (st:=st) (vs:=vs1) (at_:=at1) hd'
   rw[hr1] at hq
   subst hq
   repeat' ((conv=>whnf);(first
    |refine Br_true (decide_eq_true (by omega)) ?_
    |refine Len_in (fun hlen=>?_)
    |refine W_draw 0 tt_ok mixed (by kernel_rfl) ?_
    |refine Idx_in _ hidx (by omega) rfl ?_
    |refine Fn.use (hth) rfl rfl ?_
    |refine Need_in ⟨by omega,by omega,by omega,cs5h⟩ ?_))
   conv=>whnf
   exact finW (v':=.tup [aggD (h.cs++at1.cs),.b true]) (H':=[some (.row ((runC e vs1 at1 tk3 st ca).map .d))]) (Fin_fz [0] [] rfl rfl rfl ⟨⟨_,rfl,FB_rows ⟨.same _ rfl,.same _ rfl,.same _ rfl,.same _ rfl,.same _ rfl,.same _ rfl,.same _ rfl,.same _ rfl,.same _ rfl,.same _ rfl,.same _ rfl,.same _ rfl,sameD (congrArg D.sl (tail_rows rfl)),.same _ rfl,.same _ rfl,trivial⟩⟩,trivial⟩ (.same _ rfl) (by decide) (by intro i hi;match i,hi with|0,_=>rfl)) ⟨rfl,rfl⟩
end Go.Eng
namespace Go.Eng
open Go Go.Proofs
structure PRow where
 kind:Int
 prog:Int
 type:Int
 node:Int
 target:Int
 related:Int
 phase:Int
 err:Int
def PRow.cs (r:PRow):List D:=[.int .i64 r.kind,.int .i64 r.prog,.int .i64 r.type,.int .i64 r.node,.int .i64 r.target,.int .i64 r.related,.int .i64 r.phase,.int .i64 r.err]
theorem cs8p {l:List PRow}: ∀r∈l.map PRow.cs,r.length=8:=by
 intro r hr;obtain ⟨x,_,rfl⟩:=List.mem_map.1 hr;rfl
structure PS where
 cap:Int
 fuelM:Int
 depth:Int
 tree:Tree
 hears:List Hear
 progs:List (List Step)
 focus:Int
 fuel:Int
 under:Int
 rows:List PRow
def prgV (l:List (List Step)):AV:=match l with
 |[]=>.nsl
 |l=>.d (.sl (l.map fun p=>[stepsD p]))
theorem ren_prgV (f:Nat→Nat) (l:List (List Step)):Eng.ren f (prgV l)=prgV l:=by cases l <;> rfl
theorem low_prgV (k:Nat) (l:List (List Step)):low k (prgV l)=true:=by cases l <;> rfl
abbrev rowsP (s:PS):List (List D):=s.rows.map PRow.cs
def pgC (s:PS) (k c:Nat):List AV:=[.i s.cap,.i s.fuelM,.i s.depth,.d (treeD s.tree),.d (ints []),.d (ints []),.d (shnD []),.d (ints []),.d (hearsD s.hears),prgV s.progs,.i s.focus,.mp c,.d (.sl []),.i 1,.b true,.i s.fuel,.i s.under,AccV k 8 (rowsP s)]
def pgI (s:PS):Heap:=[some (.row (pgC s 1 2)),AccB (rowsP s),some (.mp [] [])]
def pgO (s:PS):Heap:=[some (.row (pgC s 3 2)),none,some (.mp [] []),AccB (rowsP s)]
theorem ren_pgC {f:Nat→Nat} {s:PS} {i j k c:Nat} (h1:f i=k) (h2:f j=c):renL f (pgC s i j)=pgC s k c:=by
 unfold pgC
 simp only[renL,Eng.ren,ren_prgV,h2]
 rw[← ren_acc h1]
theorem low_pgC {s:PS} {i j m:Nat} (h1:i<m) (h2:j<m):lowL m (pgC s i j)=true:=by
 unfold pgC
 simp only[lowL,low,low_prgV,low_acc h1,Bool.and_true,Bool.true_and,Nat.blt_eq]
 exact h2
theorem noY_pgI (s:PS):noY (pgI s)=true:=by
 show noY (AccB (rowsP s)::[some (.mp [] [])])=true
 exact noY_accB rfl
theorem noY_pgO (s:PS):noY (pgO s)=true:=by
 show noY (AccB (rowsP s)::[])=true
 exact noY_accB rfl
theorem patch_pg {s s':PS} {H:Heap} {a k c:Nat} (ha:a<H.length) (hk:k<H.length) (hc:H[c]? =some (some (.mp [] []))) (h1:a≠k) (h2:a≠c) (h3:k≠c):
  patch [a,k,c] H (pgO s')=((H.set a (some (.row (pgC s' H.length c)))).set k none)++[AccB (rowsP s')]:=by
 have hcl:c<H.length:=(List.getElem?_eq_some_iff.1 hc).1
 unfold patch
 congr 1
 ·apply List.ext_getElem?
  intro i
  obtain ⟨_,hg⟩:=patch1_get (hmap [a,k,c] H.length) [a,k,c] (pgO s') H 0
  rw[hg,List.getElem?_set,List.getElem?_set]
  simp only[Nat.zero_add]
  have pa:pos [a,k,c] a=some 0:=by simp[pos,pos.go]
  have pk:pos [a,k,c] k=some 1:=by simp[pos,pos.go,beq_ne h1]
  have pc:pos [a,k,c] c=some 2:=by simp[pos,pos.go,beq_ne h2,beq_ne h3]
  by_cases ei:k=i
  ·subst ei
   rw[pk,if_pos rfl,List.length_set,if_pos hk,List.getElem?_eq_getElem hk]
   rfl
  ·rw[if_neg ei]
   by_cases ea:a=i
   ·subst ea
    rw[pa,if_pos rfl,if_pos ha,List.getElem?_eq_getElem ha]
    show some (some (Blk.row (renL (hmap [a,k,c] H.length) (pgC s' 3 2))))=_
    rw[ren_pgC (k:=H.length) (c:=c) (by simp[hmap,Nat.blt]) (by simp[hmap,Nat.blt,gOf])]
   ·rw[if_neg ea]
    by_cases ec:c=i
    ·subst ec
     rw[pc,hc]
     rfl
    ·have:pos [a,k,c] i=none:=by simp[pos,pos.go,beq_ne ei,beq_ne ea,beq_ne ec]
     rw[this]
     cases H[i]? <;> rfl
 ·show renH _ [AccB (rowsP s')]=_
  by_cases h:rowsP s'=[]
  ·rw[h,AccB_nil];rfl
  ·rw[AccB_cons h];simp only[renH,renB_row]
theorem Tri.pg {f:FuncId} {args0 args:List AV} {s s':PS} {r0 r:AV} {H:Heap} {K:AV→Heap→Prop} (a k c n:Nat) (hn:H.length=n) (h:Tri Tryz.prog f args0 (pgI s) fun v H=>v=r0∧H=pgO s')
  (ha:H[a]? =some (some (.row (pgC s k c)))) (hk:H[k]? =some (AccB (rowsP s))) (hc:H[c]? =some (some (.mp [] []))) (h1:a≠k) (h2:a≠c) (h3:k≠c)
  (hargs:args=renL (gOf [a,k,c]) args0) (hl:lowL 3 args0=true) (hr:Eng.ren (hmap [a,k,c] H.length) r0=r)
  (hK:K r (((H.set a (some (.row (pgC s' n c)))).set k none)++[AccB (rowsP s')])):Tri Tryz.prog f args H K:=by
 subst hn
 have hal:a<H.length:=(List.getElem?_eq_some_iff.1 ha).1
 have hkl:k<H.length:=(List.getElem?_eq_some_iff.1 hk).1
 have hcl:c<H.length:=(List.getElem?_eq_some_iff.1 hc).1
 refine Tri.call h [a,k,c] ?_ ?_ ⟨⟨?_,low_pgC (by show 1<3;decide) (by show 2<3;decide)⟩,HLe_acc hk ⟨⟨by rw[hc];rfl,rfl⟩,trivial⟩⟩ hargs hl (noY_pgI s) (noY_pgO s') hr (patch_pg (s:=s) hal hkl hc h1 h2 h3) hK
 ·simp[Nat.blt_eq,hal,hkl,hcl]
 ·simp[noDup,beq_ne h1,beq_ne h2,beq_ne h3]
 ·rw[ha]
  show _=some (some (Blk.row (renL (gOf [a,k,c]) (pgC s 1 2))))
  rw[ren_pgC (k:=k) (c:=c) rfl rfl]
end Go.Eng
namespace Go.Eng
open Go Go.Proofs
theorem page_in (n l m:Int):Fn Tryz.prog 79 [.i n,.i l,.i m] (.b (inB n l m)):=by
 refine Fn_of tt_ok Tryz.func79 rfl (by decide) Tryz.ntmps79 rfl ?_
 repeat' ((conv=>whnf);(first
  |refine Br_dec (fun h=>?_) (fun h=>?_)
  |refine fin0 rfl ?_))
 all_goals (simp only[AV.d.injEq,D.bool.injEq];unfold inB;grind)
def wz:List D:=[.sl [],.int .i64 1,.bool true]
theorem watch_New:Fn Tryz.prog 81 [] (aggD wz):=by
 refine Fn_of tt_ok Tryz.func81 rfl (by decide) Tryz.ntmps81 rfl ?_
 repeat' ((conv=>whnf);(first
  |refine finD (F:=[]) (FV_aggs ⟨.nsl,.same _ rfl,.same _ rfl,trivial⟩)))
def okC (cap fuel depth:Int):Bool:=inB cap 1 64&&(inB fuel 0 2000&&inB depth 0 6)
def ps0 (cap fuel depth:Int):PS:=⟨cap,fuel,depth,[newN 0 0],[],[],0,0,0,[]⟩
theorem page_New (cap fuel depth:Int) (h:okC cap fuel depth=true):Tri Tryz.prog 55 [aggD [.int .i64 cap,.int .i64 fuel,.int .i64 depth]] [] fun v H=>v=.tup [.ptr 0 0,.i 0]∧H=pgI (ps0 cap fuel depth):=by
 refine Tri_of (m:=0) tt_ok Tryz.func55 rfl (by decide) Tryz.ntmps55 (by rfl) rfl ?_
 have h1:=page_in cap 1 64
 have h2:=page_in fuel 0 2000
 have h3:=page_in depth 0 6
 unfold okC at h
 simp only[Bool.and_eq_true] at h
 rw[h.1] at h1
 rw[h.2.1] at h2
 rw[h.2.2] at h3
 repeat' ((conv=>whnf);(first
  |refine Fn.use (h1) rfl rfl ?_
  |refine Fn.use (h2) rfl rfl ?_
  |refine Fn.use (h3) rfl rfl ?_
  |refine W_draw 0 tt_ok mixed (by kernel_rfl) ?_
  |refine CallF_in (tree_New) rfl rfl ?_
  |refine CallF_in (watch_New) rfl rfl ?_))
 conv=>whnf
 have e1:pgI (ps0 cap fuel depth)=[some (.row [.i cap,.i fuel,.i depth,.d (treeD [newN 0 0]),.d (ints []),.d (ints []),.d (shnD []),.d (ints []),.d (hearsD []),.nsl,.i 0,.mp 2,.d (.sl []),.i 1,.b true,.i 0,.i 0,.nsl]),none,some (.mp [] [])]:=by
  unfold pgI pgC ps0 rowsP
  rw[List.map_nil,AccV_nil,AccB_nil]
  rfl
 rw[e1]
 exact finW (v':=.tup [.ptr 0 0,.i 0]) (H':=[some (.row [.i cap,.i fuel,.i depth,.d (treeD [newN 0 0]),.d (ints []),.d (ints []),.d (shnD []),.d (ints []),.d (hearsD []),.nsl,.i 0,.mp 2,.d (.sl []),.i 1,.b true,.i 0,.i 0,.nsl]),none,some (.mp [] [])])
  (Fin_fz [2,0,1] [] rfl rfl rfl ⟨⟨_,rfl,FB_rows ⟨.same _ rfl,.same _ rfl,.same _ rfl,.same _ rfl,.nsl,.nsl,.nsl,.nsl,.nsl,.same _ rfl,.same _ rfl,.mp _ _ rfl,.same _ rfl,.same _ rfl,.same _ rfl,.same _ rfl,.same _ rfl,.same _ rfl,trivial⟩⟩,⟨_,rfl,.mp _ _ _ rfl (fun i x y h=>by simp at h)⟩,trivial⟩
   (FV_tups ⟨.ptr _ _ _ rfl,.same _ rfl,trivial⟩) (Nat.zero_le _) (by omega)) ⟨rfl,rfl⟩
def opC (d a b c:Int) (fl:Bool) (p:List Step):List D:=[.int .i64 d,.int .i64 a,.int .i64 b,.int .i64 c,.bool fl,stepsD p]
end Go.Eng
namespace Go.Eng
open Go Go.Proofs
theorem patch_pgS {s s':PS} {H:Heap} {a k c:Nat} (ha:a<H.length) (hk:H[k]? =some (AccB (rowsP s))) (hc:H[c]? =some (some (.mp [] []))) (h1:a≠k) (h2:a≠c) (h3:k≠c) (hr:s'.rows=s.rows):
  patch [a,k,c] H (pgI s')=H.set a (some (.row (pgC s' k c))):=by
 have hcl:c<H.length:=(List.getElem?_eq_some_iff.1 hc).1
 have hkl:k<H.length:=(List.getElem?_eq_some_iff.1 hk).1
 have e:rowsP s'=rowsP s:=by unfold rowsP;rw[hr]
 unfold patch
 have e0:renH (hmap [a,k,c] H.length) ((pgI s').drop [a,k,c].length)=[]:=rfl
 rw[e0,List.append_nil]
 apply List.ext_getElem?
 intro i
 obtain ⟨_,hg⟩:=patch1_get (hmap [a,k,c] H.length) [a,k,c] (pgI s') H 0
 rw[hg,List.getElem?_set]
 simp only[Nat.zero_add]
 have pa:pos [a,k,c] a=some 0:=by simp[pos,pos.go]
 have pk:pos [a,k,c] k=some 1:=by simp[pos,pos.go,beq_ne h1]
 have pc:pos [a,k,c] c=some 2:=by simp[pos,pos.go,beq_ne h2,beq_ne h3]
 by_cases ea:a=i
 ·subst ea
  rw[pa,if_pos rfl,if_pos ha,List.getElem?_eq_getElem ha]
  show some (some (Blk.row (renL (hmap [a,k,c] H.length) (pgC s' 1 2))))=_
  rw[ren_pgC (k:=k) (c:=c) (by simp[hmap,Nat.blt,gOf]) (by simp[hmap,Nat.blt,gOf])]
 ·rw[if_neg ea]
  by_cases ek:k=i
  ·subst ek
   rw[pk,hk]
   show some (match some (AccB (rowsP s')) with|some (some k1)=>some (renB (hmap [a,k,c] H.length) k1)|_=>none)=_
   rw[e]
   by_cases h:rowsP s=[]
   ·rw[h,AccB_nil]
   ·rw[AccB_cons h];simp only[renB_row]
  ·by_cases ec:c=i
   ·subst ec
    rw[pc,hc]
    rfl
   ·have:pos [a,k,c] i=none:=by simp[pos,pos.go,beq_ne ek,beq_ne ea,beq_ne ec]
    rw[this]
    cases H[i]? <;> rfl
theorem Tri.pgS {f:FuncId} {args0 args:List AV} {s s':PS} {r0 r:AV} {H:Heap} {K:AV→Heap→Prop} (a k c:Nat) (h:Tri Tryz.prog f args0 (pgI s) fun v H=>v=r0∧H=pgI s') (hrow:s'.rows=s.rows)
  (ha:H[a]? =some (some (.row (pgC s k c)))) (hk:H[k]? =some (AccB (rowsP s))) (hc:H[c]? =some (some (.mp [] []))) (h1:a≠k) (h2:a≠c) (h3:k≠c)
  (hargs:args=renL (gOf [a,k,c]) args0) (hl:lowL 3 args0=true) (hr:Eng.ren (hmap [a,k,c] H.length) r0=r)
  (hK:K r (H.set a (some (.row (pgC s' k c))))):Tri Tryz.prog f args H K:=by
 have hal:a<H.length:=(List.getElem?_eq_some_iff.1 ha).1
 have hkl:k<H.length:=(List.getElem?_eq_some_iff.1 hk).1
 have hcl:c<H.length:=(List.getElem?_eq_some_iff.1 hc).1
 refine Tri.call h [a,k,c] ?_ ?_ ⟨⟨?_,low_pgC (by show 1<3;decide) (by show 2<3;decide)⟩,HLe_acc hk ⟨⟨by rw[hc];rfl,rfl⟩,trivial⟩⟩ hargs hl (noY_pgI s) (noY_pgI s') hr (patch_pgS hal hk hc h1 h2 h3 hrow) hK
 ·simp[Nat.blt_eq,hal,hkl,hcl]
 ·simp[noDup,beq_ne h1,beq_ne h2,beq_ne h3]
 ·rw[ha]
  show _=some (some (Blk.row (renL (gOf [a,k,c]) (pgC s 1 2))))
  rw[ren_pgC (k:=k) (c:=c) rfl rfl]
theorem FB_pg {g F:List Nat} {H:Heap} {s:PS} {i j k c:Nat} (h1:g[k]? =some i) (h2:g[c]? =some j):FB g F H (.row (pgC s i j)) (.row (pgC s k c)):=by
 unfold pgC
 exact FB_rows ⟨.same _ rfl,.same _ rfl,.same _ rfl,.same _ rfl,.same _ rfl,.same _ rfl,.same _ rfl,.same _ rfl,.same _ rfl,.same _ (low_prgV 0 _),.same _ rfl,.mp _ _ h2,.same _ rfl,.same _ rfl,.same _ rfl,.same _ rfl,.same _ rfl,FV_accM h1,trivial⟩
theorem finPI {v r:AV} {H:Heap} {s:PS} (F:List Nat) (ha:H[0]? =some (some (.row (pgC s 1 2)))) (hk:H[1]? =some (AccB (rowsP s))) (hc:H[2]? =some (some (.mp [] []))) (hap:apartL [0,1,2] F=true) (hv:FV [0,1,2] F H v r):
  FinK 3 v H fun v H'=>v=r∧H'=pgI s:=by
 have hcl:2<H.length:=(List.getElem?_eq_some_iff.1 hc).1
 refine finW (v':=r) (H':=[some (.row (pgC s 1 2)),AccB (rowsP s),some (.mp [] [])]) (Fin_fz [0,1,2] F ?_ rfl hap ⟨⟨_,ha,FB_pg rfl rfl⟩,HFz_acc hk ⟨⟨_,hc,.mp _ _ _ rfl fun i x y h=>by simp at h⟩,trivial⟩⟩ hv (by decide) ?_) ⟨rfl,rfl⟩
 ·simp[Nat.blt_eq];omega
 ·intro i hi
  match i,hi with
  |0,_=>rfl
  |1,_=>rfl
  |2,_=>rfl
theorem finPO {v r:AV} {H:Heap} {s:PS} (k:Nat) (F:List Nat) (h0:k≠0) (h2:k≠2) (ha:H[0]? =some (some (.row (pgC s k 2)))) (hk:H[k]? =some (AccB (rowsP s))) (hc:H[2]? =some (some (.mp [] []))) (hap:apartL [0,1,2,k] F=true) (hv:FV [0,1,2,k] F H v r):
  FinK 3 v H fun v H'=>v=r∧H'=pgO s:=by
 have hcl:2<H.length:=(List.getElem?_eq_some_iff.1 hc).1
 have hkl:k<H.length:=(List.getElem?_eq_some_iff.1 hk).1
 refine finW (v':=r) (H':=[some (.row (pgC s 3 2)),none,some (.mp [] []),AccB (rowsP s)]) (Fin_fzI [0,1,2,k] [0,k+3,2,k] F ?_ ?_ ⟨.inr rfl,.inl rfl,.inr rfl,.inr rfl,trivial⟩ hap ⟨⟨_,ha,FB_pg rfl rfl⟩,⟨_,hc,.mp _ _ _ rfl fun i x y h=>by simp at h⟩,HFz_acc hk trivial⟩ hv (by show 3≤4;decide) ?_) ⟨rfl,rfl⟩
 ·simp[Nat.blt_eq,hkl];omega
 ·simp only[noDup,List.all_cons,List.all_nil,Bool.and_true,Bool.and_eq_true,Bool.not_eq_true'];refine⟨⟨beq_ne (by omega),beq_ne (by omega),beq_ne (by omega)⟩,⟨beq_ne (by omega),beq_ne (by omega)⟩,beq_ne (by omega)⟩
 ·intro i hi
  match i,hi with
  |0,_=>rfl
  |1,_=>rfl
  |2,_=>rfl
theorem page_is (s:PS) (n:Int):Tri Tryz.prog 223 [.ptr 0 0,.i n] (pgI s) fun v H=>v=.b (isN s.tree n)∧H=pgI s:=by
 refine Tri_of (m:=3) tt_ok Tryz.func223 rfl (by decide) Tryz.ntmps223 (by rfl) rfl ?_
 have e:(List.map Node.cs s.tree).length=s.tree.length:=by simp
 have hi:isN s.tree n=inB n 0 ((List.map Node.cs s.tree).length-1):=by unfold isN inB;rw[e];apply decide_eq_decide.2;omega
 have h1:=page_in n 0 ((List.map Node.cs s.tree).length-1)
 rw[← hi] at h1
 repeat' ((conv=>whnf);(first
  |refine finPI [] rfl rfl rfl rfl (.same _ rfl)
  |refine Len_in (fun hlen=>?_)
  |refine Fn.use (h1) rfl rfl ?_
  |refine ArK_in (wrap_i64 (by omega) (by omega)) ?_))
theorem page_Focus (s:PS):Tri Tryz.prog 85 [.ptr 0 0] (pgI s) fun v H=>v=.i s.focus∧H=pgI s:=by
 refine Tri_of (m:=3) tt_ok Tryz.func85 rfl (by decide) Tryz.ntmps85 (by rfl) rfl ?_
 repeat' ((conv=>whnf);(first
  |refine finPI [] rfl rfl rfl rfl (.same _ rfl)))
theorem page_View (s:PS) (hne:s.tree≠[]) (hs:SmallT s.tree):Tri Tryz.prog 87 [.ptr 0 0] (pgI s) fun v H=>v=aggD (pv s.tree)∧H=pgI s:=by
 refine Tri_of (m:=3) tt_ok Tryz.func87 rfl (by decide) Tryz.ntmps87 (by rfl) rfl ?_
 have h:=top_Copy s.tree hne hs
 repeat' ((conv=>whnf);(first
  |refine finPI [] rfl rfl rfl rfl (.same _ rfl)
  |refine Fn.use (h) rfl rfl ?_))
def madeR (s:PS) (t:Tree) (n e:Int):PS×Int×Int:=if e≠0 then (s,0,e) else if (t.length:Int)>s.cap then (s,0,4) else ({ s with tree:=t },n,0)
theorem page_made (s:PS) (t:Tree) (n e:Int):Tri Tryz.prog 139 [.ptr 0 0,.d (treeD t),.i n,.i e] (pgI s) fun v H=>v=.tup [.i (madeR s t n e).2.1,.i (madeR s t n e).2.2]∧H=pgI (madeR s t n e).1:=by
 refine Tri_of (m:=3) tt_ok Tryz.func139 rfl (by decide) Tryz.ntmps139 (by rfl) rfl ?_
 have e7:(List.map Node.cs t).length=t.length:=by simp
 unfold madeR
 by_cases he:e=0
 ·subst he
  rw[if_neg (by simp)]
  by_cases hc:(t.length:Int)>s.cap
  ·rw[if_pos hc]
   repeat' ((conv=>whnf);(first
    |refine finPI [] rfl rfl rfl rfl (FV_tups ⟨.same _ rfl,.same _ rfl,trivial⟩)
    |refine Br_true (decide_eq_true (by omega)) ?_
    |refine Len_in (fun hlen=>?_)))
   all_goals (exfalso;omega)
  ·rw[if_neg hc]
   repeat' ((conv=>whnf);(first
    |refine finPI [] rfl rfl rfl rfl (FV_tups ⟨.same _ rfl,.same _ rfl,trivial⟩)
    |refine Br_false (decide_eq_false (by omega)) ?_
    |refine Len_in (fun hlen=>?_)))
   all_goals (exfalso;omega)
 ·rw[if_pos he]
  repeat' ((conv=>whnf);(first
   |refine finPI [] rfl rfl rfl rfl (FV_tups ⟨.same _ rfl,.same _ rfl,trivial⟩)
   |refine Br_true (bneT (by omega)) ?_))
theorem renH_pgI (f:Nat→Nat) (s:PS):renH f (pgI s)=[some (.row (pgC s (f 1) (f 2))),AccB (rowsP s),some (.mp [] [])]:=by
 have e:renL f (pgC s 1 2)=pgC s (f 1) (f 2):=ren_pgC rfl rfl
 have eb:renB f (.row (pgC s 1 2))=.row (pgC s (f 1) (f 2)):=by show Blk.row (renL f (pgC s 1 2))=_;rw[e]
 unfold pgI
 by_cases h:rowsP s=[]
 ·rw[h,AccB_nil]
  simp only[renH,List.map_cons,List.map_nil,Option.map,eb]
  rfl
 ·rw[AccB_cons h]
  simp only[renH,List.map_cons,List.map_nil,Option.map,eb,renB_row]
  rfl
end Go.Eng
namespace Go.Eng
open Go Go.Proofs
abbrev cfgD (cap fuel depth:Int):List D:=[.int .i64 cap,.int .i64 fuel,.int .i64 depth]
end Go.Eng
namespace Go.Eng
open Go Go.Proofs
theorem ups_may {t:Tree} (h:mayB t=true):Ups t:=ups_of t fun k hk=>may_node h (isN_nat hk)
theorem tree_wrong (t:Tree) (a b:Int) (hm:mayB t=true) (ha:isN t a=true) (hb:isN t b=true) (k1:(nd t a).kind≠2) (k2:(nd t b).kind≠0) (k3:(nd t b).kind≠3)
  (hl: ∀x∈climb t (t.length+1) a,x≠b):Fn Tryz.prog 210 [.d (treeD t),aggD [.int .i64 a,.int .i64 b,.int .i64 (-1)]] (.i 0):=by
 refine Fn_of tt_ok Tryz.func210 rfl (by decide) Tryz.ntmps210 rfl ?_
 have h1:=tree_is t a
 have h2:=tree_is t b
 rw[ha] at h1
 rw[hb] at h2
 repeat' ((conv=>whnf);(first
  |refine Br_false (beqF (by omega)) ?_
  |refine Fn.use (h1) rfl rfl ?_
  |refine Fn.use (h2) rfl rfl ?_
  |refine Idx_nd ha rfl ?_
  |refine Idx_nd hb rfl ?_
  |refine Tri.call (tree_up t a) [] rfl rfl trivial rfl rfl rfl rfl (r:=.clos (.func 346) [] [.ptr 2 0,.ptr 3 0]) (H':=[some (.row [.i a,.i b,.i (-1)]),some (.row [.i 0]),some (.row [.d (treeD t)]),some (.row [.i a])]) rfl rfl ?_))
 conv=>whnf
 refine W_rangeA [2,3] (fs0:=[]) (cs0:=[.ptr 0 0,.ptr 1 0]) (H0:=[some (.row [.d (treeD t)]),some (.row [.i a])]) ((climb t (t.length+1) a).map AV.i) (fun k H=>H=[some (.row [.i a,.i b,.i (-1)]),some (.row [.i 0]),none,none,some .dfr]) (fun _ _=>False) rfl rfl rfl
  (by repeat (first|exact trivial|refine⟨⟨rfl,rfl⟩,?_⟩)) rfl rfl rfl rfl (by decide) (by decide) AsgOk_in rfl plain_ints ?_ rfl ?_ ?_ ?_
 ·intro Y hx hY
  have:=tree_up1 t a (ups_may hm) (.inr ha) Y hx hY
  rw[hx] at this
  exact this
 ·rintro l k x H' hx rfl hl' hY
  rw[List.getElem?_map] at hx
  cases h:(climb t (t.length+1) a)[k]? with
  |none=>rw[h] at hx;simp at hx
  |some c=>
  rw[h] at hx
  simp at hx
  subst hx
  have hc:=hl c (List.mem_of_getElem? h)
  refine W_run tt_ok ?_
  repeat' ((conv=>whnf);(first
   |refine Br_false (beqF hc) ?_
   |refine Rd_next [some (.row [.i a,.i b,.i (-1)]),some (.row [.i 0]),none,none,some .dfr] (Wk_env (by repeat (first|exact trivial|refine⟨rfl,?_⟩))) rfl (Nat.le_of_ble_eq_true rfl) rfl))
 ·rintro H' rfl hl' hY
  repeat' ((conv=>whnf);(first
   |refine W_draw 0 tt_ok mixed (by kernel_rfl) ?_
   |refine fin0 rfl ?_))
  rfl
 ·intro e H' c _ h
  exact h.elim
end Go.Eng
namespace Go.Eng
open Go Go.Proofs
end Go.Eng
namespace Go.Eng
open Go Go.Proofs
end Go.Eng
namespace Go.Eng
open Go Go.Proofs
end Go.Eng
namespace Go.Eng
theorem allOk_m {t:Tree} {n:Int} (h:allOk t n=true):mayB t=true:=by unfold allOk at h;simp only[Bool.and_eq_true] at h;exact h.1
theorem allOk_n {t:Tree} {n:Int} (h:allOk t n=true):isN t n=true:=by unfold allOk at h;simp only[Bool.and_eq_true] at h;exact h.2
def actR (t:Tree) (f r:Int):Int:=
 if (allOk t f&&allOk t r)=true then (if (nd t r).kind=1∨(nd t r).kind=2 then -1 else if retR t f r≠r∧topR t (retR t f r)=r then retR t f r else if (nd t r).kind=0 then 0 else -1) else -1
def rootB (t:Tree) (n:Int):Bool:=decide ((nd t n).kind=0)||decide ((nd t n).kind=3)
def rootsF (t:Tree):Nat→List Int
 |0=>[]
 |k+1=>rootsF t k++(if rootB t k then [(k:Int)] else [])
def rootsR (t:Tree):List Int:=rootsF t t.length
theorem rootsF_pre (t:Tree) (j:Nat): ∀k,j≤k→ ∃r,rootsF t k=rootsF t j++r:=by
 intro k h
 induction k with
 |zero=>
  have:j=0:=by omega
  subst this;exact⟨[],by simp⟩
 |succ k ih=>
  by_cases e:j=k+1
  ·subst e;exact⟨[],by simp⟩
  ·obtain ⟨r,hr⟩:=ih (by omega)
   exact⟨r++(if rootB t k then [(k:Int)] else []),by simp[rootsF,hr]⟩
theorem rootsF_len (t:Tree): ∀k,(rootsF t k).length≤k:=by
 intro k
 induction k with
 |zero=>simp[rootsF]
 |succ k ih=>simp only[rootsF,List.length_append];split <;> simp <;> omega
def actsR (t:Tree) (f:Int):List (Int×Int):=if allOk t f=true then (rootsR t).map fun r=>(r,actR t f r) else []
def actCs (a:Int×Int):List D:=[.int .i64 a.1,.int .i64 a.2]
end Go.Eng
namespace Go.Eng
open Go Go.Proofs
theorem chain_Active (t:Tree) (f r:Int):Fn Tryz.prog 116 [.d (treeD t),.i f,.i r] (.i (actR t f r)):=by
 refine Fn_of tt_ok Tryz.func116 rfl (by decide) Tryz.ntmps116 rfl ?_
 have h1:=chain_is t f r
 unfold actR
 cases hb:allOk t f&&allOk t r
 ·rw[hb] at h1
  rw[if_neg (by simp)]
  repeat' ((conv=>whnf);(first
   |refine Fn.use (h1) rfl rfl ?_
   |refine fin0 rfl ?_))
  all_goals rfl
 rw[hb] at h1
 rw[if_pos rfl]
 simp only[Bool.and_eq_true] at hb
 obtain ⟨hf,hr⟩:=hb
 have hn:=allOk_n hr
 have h2:=shade_Retarget t f r
 have h3:=order_Top t (retR t f r)
 generalize retR t f r=a at *
 generalize topR t a=tp at *
 by_cases k1:(nd t r).kind=1∨(nd t r).kind=2
 ·rw[if_pos k1]
  rcases k1 with k1|k1
  all_goals
   repeat' ((conv=>whnf);(first
    |refine Br_true (beqT (by omega)) ?_
    |refine Br_false (beqF (by omega)) ?_
    |refine Fn.use (h1) rfl rfl ?_
    |refine Idx_nd hn rfl ?_
    |refine fin0 rfl ?_))
   all_goals (first|rfl|(exfalso;omega))
 rw[if_neg k1]
 have k2:(nd t r).kind≠1:=fun h=>k1 (.inl h)
 have k3:(nd t r).kind≠2:=fun h=>k1 (.inr h)
 by_cases k0:(nd t r).kind=0
 ·rw[if_pos k0]
  by_cases e1:a=r
  ·rw[if_neg (by simp[e1])]
   repeat' ((conv=>whnf);(first
    |refine Br_true (beqT (by omega)) ?_
    |refine Br_false (bneF (by omega)) ?_
    |refine Fn.use (h1) rfl rfl ?_
    |refine Idx_nd hn rfl ?_
    |refine Fn.use (h2) rfl rfl ?_
    |refine fin0 rfl ?_))
   rfl
  ·by_cases e2:tp=r
   ·rw[if_pos ⟨e1,e2⟩]
    repeat' ((conv=>whnf);(first
     |refine Br_true (beqT (by omega)) ?_
     |refine Br_true (bneT (by omega)) ?_
     |refine Fn.use (h1) rfl rfl ?_
     |refine Idx_nd hn rfl ?_
     |refine Fn.use (h2) rfl rfl ?_
     |refine Fn.use (h3) rfl rfl ?_
     |refine fin0 rfl ?_))
    rfl
   ·rw[if_neg (by simp[e2])]
    repeat' ((conv=>whnf);(first
     |refine Br_true (beqT (by omega)) ?_
     |refine Br_false (beqF (by omega)) ?_
     |refine Br_true (bneT (by omega)) ?_
     |refine Fn.use (h1) rfl rfl ?_
     |refine Idx_nd hn rfl ?_
     |refine Fn.use (h2) rfl rfl ?_
     |refine Fn.use (h3) rfl rfl ?_
     |refine fin0 rfl ?_))
    rfl
 ·rw[if_neg k0]
  by_cases e1:a=r
  ·rw[if_neg (by simp[e1])]
   repeat' ((conv=>whnf);(first
    |refine Br_false (beqF (by omega)) ?_
    |refine Br_false (bneF (by omega)) ?_
    |refine Fn.use (h1) rfl rfl ?_
    |refine Idx_nd hn rfl ?_
    |refine Fn.use (h2) rfl rfl ?_
    |refine fin0 rfl ?_))
   rfl
  ·by_cases e2:tp=r
   ·rw[if_pos ⟨e1,e2⟩]
    repeat' ((conv=>whnf);(first
     |refine Br_true (beqT (by omega)) ?_
     |refine Br_false (beqF (by omega)) ?_
     |refine Br_true (bneT (by omega)) ?_
     |refine Fn.use (h1) rfl rfl ?_
     |refine Idx_nd hn rfl ?_
     |refine Fn.use (h2) rfl rfl ?_
     |refine Fn.use (h3) rfl rfl ?_
     |refine fin0 rfl ?_))
    rfl
   ·rw[if_neg (by simp[e2])]
    repeat' ((conv=>whnf);(first
     |refine Br_false (beqF (by omega)) ?_
     |refine Br_true (bneT (by omega)) ?_
     |refine Fn.use (h1) rfl rfl ?_
     |refine Idx_nd hn rfl ?_
     |refine Fn.use (h2) rfl rfl ?_
     |refine Fn.use (h3) rfl rfl ?_
     |refine fin0 rfl ?_))
    rfl
end Go.Eng
namespace Go.Eng
open Go Go.Proofs
end Go.Eng
namespace Go.Eng
open Go Go.Proofs
end Go.Eng
namespace Go.Eng
open Go Go.Proofs
theorem run_roots (t:Tree):Tri Tryz.prog 115 [.d (treeD t)] [] fun v H=>v=.clos (.func 186) [] [.ptr 0 0]∧H=[some (.row [.d (treeD t)])]:=by
 refine Tri_of (m:=0) tt_ok Tryz.func115 rfl (by decide) Tryz.ntmps115 (by rfl) rfl ?_
 repeat' ((conv=>whnf);(first
  |refine finR ?_))
 rfl
theorem run_roots1 (t:Tree):Seq1 186 (treeD t) ((rootsR t).map AV.i):=by
 intro Y hx hY
 refine Tri_of (m:=2) tt_ok Tryz.func186 rfl (by decide) Tryz.ntmps186 (by rfl) rfl ?_
 have hkl:(List.map Node.cs t).length=t.length:=by simp
 repeat' ((conv=>whnf);(first
  |refine Len_in (fun hlen=>?_)))
 refine W_loop (fun μ s=> ∃(j:Nat),j≤t.length∧μ=t.length-j∧
   s=⟨[(0,.clos (.yield Y.l) [] []),(1,.ptr 0 0),(5,.d (treeD t)),(6,.i (List.map Node.cs t).length),(7,.i j)],27,[some (.row [.d (treeD t)]),some (.yl Y (rootsF t j).length)],2,[]⟩) t.length
  ⟨_,?_,0,by omega,by omega,rfl⟩ ?_
 ·exact Wk_env (by repeat (first|exact trivial|refine⟨rfl,?_⟩))
 rintro μ s1 ⟨j,hj,rfl,rfl⟩
 refine W_run tt_ok ?_
 refine Br_dec (fun h=>?_) (fun h=>?_)
 ·rw[hkl] at h
  have hlt:j<t.length:=by omega
  have hn:isN t (j:Int)=true:=by unfold isN;simp;omega
  by_cases hb:rootB t j=true
  ·have e:rootsF t (j+1)=rootsF t j++[(j:Int)]:=by simp[rootsF,hb]
   have hxk:Y.xs[(rootsF t j).length]? =some (.i j):=by
    obtain ⟨r,hr⟩:=rootsF_pre t (j+1) t.length (by omega)
    rw[hx,List.getElem?_map]
    unfold rootsR
    rw[hr,e,List.append_assoc,List.getElem?_append_right (Nat.le_refl _),Nat.sub_self]
    rfl
   have hb2:=hb
   unfold rootB at hb2
   simp only[Bool.or_eq_true,decide_eq_true_eq] at hb2
   rcases hb2 with hb2|hb2
   all_goals
    repeat' ((conv=>whnf);(first
     |refine Br_true (beqT (by omega)) ?_
     |refine Br_false (beqF (by omega)) ?_
     |refine Idx_nd hn rfl ?_
     |refine Yield_in 1 Y _ (.i j) rfl rfl hY rfl rfl hxk ?_ ?_
     |refine Back_in _ _ ⟨j+1,by omega,rfl,rfl⟩ (by omega) ?_
     |refine finQ (.inr rfl)
     |refine ArK_in (wrap_i64 (by omega) (by omega)) ?_))
    rw[e,List.length_append]
    exact Wk_ren [0,1] rfl rfl ⟨⟨rfl,rfl⟩,⟨rfl,rfl⟩,trivial⟩ (by repeat (first|exact trivial|refine⟨⟨rfl,rfl⟩,?_⟩)) (by decide) (by intro i hi;match i,hi with|0,_=>rfl|1,_=>rfl)
  ·have e:rootsF t (j+1)=rootsF t j:=by simp[rootsF,hb]
   unfold rootB at hb
   simp only[Bool.or_eq_true,decide_eq_true_eq,not_or] at hb
   obtain ⟨hb1,hb2⟩:=hb
   repeat' ((conv=>whnf);(first
    |refine Br_false (beqF (by omega)) ?_
    |refine Idx_nd hn rfl ?_
    |refine Back_in _ _ ⟨j+1,by omega,rfl,rfl⟩ (by omega) ?_
    |refine ArK_in (wrap_i64 (by omega) (by omega)) ?_))
   rw[e]
   exact Wk_ren [0,1] rfl rfl ⟨⟨rfl,rfl⟩,⟨rfl,rfl⟩,trivial⟩ (by repeat (first|exact trivial|refine⟨⟨rfl,rfl⟩,?_⟩)) (by decide) (by intro i hi;match i,hi with|0,_=>rfl|1,_=>rfl)
 ·rw[hkl] at h
  have hjl:j=t.length:=by omega
  repeat' ((conv=>whnf);(first
   |refine finQ (.inl ?_)))
  rw[hjl]
  simp[rootsR]
theorem chain_Chain_no (t:Tree) (n:Int) (ha:allOk t n=false):Fn Tryz.prog 114 [.d (treeD t),.i n] .nsl:=by
 refine Fn_of tt_ok Tryz.func114 rfl (by decide) Tryz.ntmps114 rfl ?_
 have h1:=chain_is t n n
 rw[ha] at h1
 repeat' ((conv=>whnf);(first
  |refine Fn.use (h1) rfl rfl ?_
  |refine fin0 rfl ?_))
 all_goals rfl
def rooH (t:Tree) (f:Int) (v:AV):Heap:=[some (.row [.d (treeD t)]),some (.row [.i f]),some (.row [v]),none,some .dfr]
theorem run_Actives (t:Tree) (f:Int):Fn Tryz.prog 86 [.d (treeD t),.i f] (.d (.sl ((actsR t f).map actCs))):=by
 refine Fn_of tt_ok Tryz.func86 rfl (by decide) Tryz.ntmps86 rfl ?_
 cases ha:allOk t f
 ·have h1:=chain_Chain_no t f ha
  have e:actsR t f=[]:=by unfold actsR;rw[if_neg (by simp[ha])]
  rw[e]
  repeat' ((conv=>whnf);(first
   |refine Fn.use (h1) rfl rfl ?_
   |refine finD (F:=[]) .nsl))
 have h1:=chain_Chain t f
 have hne:(chainR t f).map intCs≠[]:=by unfold chainR;rw[ha,if_neg (by simp)];split <;> simp
 have e:(actsR t f).map actCs=(rootsR t).map fun r=>actCs (r,actR t f r):=by unfold actsR;rw[if_pos ha,List.map_map];rfl
 rw[e]
 clear e
 have hm:=allOk_m ha
 have h64:=may_len64 hm
 have hlen:(rootsR t).length≤64:=by have:=rootsF_len t t.length;unfold rootsR;omega
 have hs:=run_roots1 t
 have hA:=fun r=>chain_Active t f r
 generalize rootsR t=L at *
 generalize actR t f=A at *
 generalize chainR t f=C at *
 repeat' ((conv=>whnf);(first
  |refine Fn.use (h1) rfl rfl ?_
  |refine NilK.mk (fun b hb=>?_)
  |refine Br_false (hb hne) ?_
  |refine Tri.call (run_roots t) [] rfl rfl trivial rfl rfl rfl rfl (r:=.clos (.func 186) [] [.ptr 3 0]) (H':=[some (.row [.d (treeD t)]),some (.row [.i f]),some (.row [.nsl]),some (.row [.d (treeD t)])]) rfl rfl ?_))
 conv=>whnf
 refine W_rangeA [3] (fs0:=[]) (cs0:=[.ptr 0 0]) (H0:=[some (.row [.d (treeD t)])]) (L.map AV.i)
  (fun k H=>(k=0∧H=rooH t f .nsl)∨(0<k∧H=rooH t f (AccV 5 2 ((L.take k).map fun r=>actCs (r,A r)))++[AccB ((L.take k).map fun r=>actCs (r,A r))]))
  (fun _ _=>False) rfl rfl rfl
  (by repeat (first|exact trivial|refine⟨⟨rfl,rfl⟩,?_⟩)) rfl rfl rfl rfl (by decide) (by decide) AsgOk_in rfl plain_ints ?_ (.inl ⟨rfl,rfl⟩) ?_ ?_ ?_
 ·intro Y hx hY
  exact hs Y hx hY
 ·rintro lp k z H' hx hH hln hY
  obtain ⟨c,hc,rfl⟩: ∃c,L[k]? =some c∧z=.i c:=by
   rw[List.getElem?_map] at hx
   cases h:L[k]? with
   |none=>rw[h] at hx;simp at hx
   |some c=>rw[h] at hx;simp at hx;exact⟨c,rfl,hx.symm⟩
  have hlt:k<L.length:=(List.getElem?_eq_some_iff.1 hc).1
  have hce:L[k]=c:=(List.getElem?_eq_some_iff.1 hc).2
  have htk:(L.take (k+1)).map (fun r=>actCs (r,A r))=(L.take k).map (fun r=>actCs (r,A r))++[actCs (c,A c)]:=by rw[List.take_succ_eq_append_getElem hlt,hce,List.map_append];rfl
  have hrl:((L.take k).map fun r=>actCs (r,A r)).length=k:=by simp;omega
  refine W_padH (H2:=rooH t f (AccV 5 2 ((L.take k).map fun r=>actCs (r,A r)))++[AccB ((L.take k).map fun r=>actCs (r,A r))]) ?_ ?_
  ·rcases hH with ⟨rfl,rfl⟩|⟨_,rfl⟩
   ·exact .inr (by rw[List.take_zero,List.map_nil,AccV_nil,AccB_nil])
   ·exact .inl rfl
  have hr1: ∀r∈(L.take k).map (fun r=>actCs (r,A r)),r.length=2:=by intro r hr;obtain ⟨x,_,rfl⟩:=List.mem_map.1 hr;rfl
  generalize hrw:(L.take k).map (fun r=>actCs (r,A r))=rows at *
  have hAc:=hA c
  generalize A c=ac at *
  refine W_run tt_ok ?_
  have ha:=Acc_app (b:=5) (sz:=2) (rows:=rows) (new:=[actCs (c,ac)]) (by simp)
  repeat' ((conv=>whnf);(first
   |(refine App_acc rows [actCs (c,ac)] rfl rfl rfl rfl (by simp) hr1 (by intro r hr;simp at hr;subst hr;rfl) (by rw[hrl];simp only[List.length_cons,List.length_nil];omega) (Nat.le_of_ble_eq_true rfl) ?_)
   |refine W_draw 0 tt_ok mixed (by kernel_rfl) ?_
   |refine CallF_in (hAc) rfl rfl ?_
   |refine force_in ?_))
  conv=>whnf
  refine Rd_next (rooH t f (.msl 5 0 (rows.length+1) (rows.length+1) 2)++[some (.row ((rows++[actCs (c,ac)]).flatten.map .d))]) (Wk_ren [0,1,2,3,4,6] rfl rfl (by refine⟨⟨rfl,rfl⟩,⟨rfl,rfl⟩,⟨rfl,rfl⟩,⟨rfl,rfl⟩,⟨by rw[renB_row];rfl,lowB_row _ _⟩,trivial⟩) (by repeat (first|exact trivial|refine⟨⟨rfl,rfl⟩,?_⟩)) (by show 5≤6;decide) (by show∀i,i<5→gOf [0,1,2,3,4,6] i=i;decide)) rfl (by simp[rooH]) (.inr ⟨by omega,?_⟩)
  rw[htk,ha.1,ha.2]
  rfl
 ·rintro H' hH hln hY
  rw[List.length_map] at hH
  rw[List.take_length] at hH
  have hcs: ∀r∈L.map (fun r=>actCs (r,A r)),r.length=2:=by intro r hr;obtain ⟨x,_,rfl⟩:=List.mem_map.1 hr;rfl
  rcases hH with ⟨h0,rfl⟩|⟨h0,rfl⟩
  ·have hnl:L=[]:=List.eq_nil_of_length_eq_zero h0
   subst hnl
   repeat' ((conv=>whnf);(first
    |refine finD (F:=[]) .nsl))
  ·have hnn:L.map (fun r=>actCs (r,A r))≠[]:=by intro e;have:=congrArg List.length e;rw[List.length_map] at this;simp at this;subst this;simp at h0
   rw[AccV_cons hnn,AccB_cons hnn]
   repeat' ((conv=>whnf);(first
    |refine finD (F:=[5]) (FV_tab _ rfl rfl rfl hcs)))
 ·intro e H' c _ h
  exact h.elim
end Go.Eng
namespace Go.Eng
open Go Go.Proofs
def turnR (s:PS) (t:Tree) (e:Int):PS×Int:=if e≠0 then (s,e) else ({ s with tree:=t },0)
theorem page_turn (s:PS) (t:Tree) (e:Int) (hm:e=0→mayB t=true) (hs:e=0→SmallT t):Tri Tryz.prog 145 [.ptr 0 0,.d (treeD t),.i e] (pgI s) fun v H=>v=.i (turnR s t e).2∧H=pgI (turnR s t e).1:=by
 refine Tri_of (m:=3) tt_ok Tryz.func145 rfl (by decide) Tryz.ntmps145 (by rfl) rfl ?_
 unfold turnR
 by_cases he:e=0
 ·subst he
  rw[if_neg (by simp)]
  have h:=top_Fix t (hm rfl) (hs rfl)
  repeat' ((conv=>whnf);(first
   |refine Len_in (fun hlen=>?_)
   |refine Fn.use (h) rfl rfl ?_))
  refine W_loop (fun μ s1=>s1=⟨[(0,.ptr 0 0),(31,.i 0),(32,.i 0)],40,pgI { s with tree:=t },3,[]⟩) 0 ⟨_,?_,rfl⟩ ?_
  ·exact Wk_env (by repeat (first|exact trivial|refine⟨rfl,?_⟩))
  rintro μ s1 rfl
  refine W_run tt_ok ?_
  repeat' ((conv=>whnf);(first
   |refine finPI [] rfl rfl rfl rfl (.same _ rfl)))
 ·rw[if_pos he]
  repeat' ((conv=>whnf);(first
   |refine finPI [] rfl rfl rfl rfl (.same _ rfl)
   |refine Br_true (bneT (by omega)) ?_))
theorem clone_steps (l:List Step) (hl:l.length≤1000):Fn Tryz.prog 222 [.d (stepsD l)] (.d (stepsD l)):=by
 refine Fn_of tt_ok Tryz.func222 rfl (by decide) Tryz.ntmps222 rfl ?_
 have e:(List.map Step.cs l).length=l.length:=by simp
 have c3: ∀r∈l.map Step.cs,r.length=3:=by intro r hr;obtain ⟨x,_,rfl⟩:=List.mem_map.1 hr;rfl
 refine Nil_in fun b hb=>?_
 cases b
 ·skip
  refine Ch_r ?_
  skip
  refine Ch_r (Need_in ⟨Nat.le_trans (Nat.mul_le_mul_right _ (by omega:_≤1200)) (Nat.le_of_ble_eq_true rfl),by unfold LB;omega,c3⟩ ?_)
  repeat' ((conv=>whnf);(first
   |refine fin0 rfl ?_))
  rfl
 ·have h0:l=[]:=by
   cases l with
   |nil=>rfl
   |cons a r=>have:=hb (by simp);simp at this
  subst h0
  repeat' ((conv=>whnf);(first
   |refine finD (F:=[]) .nsl))
def progR (s:PS) (l:List Step):PS×Int×Int:=if checkB l=false then (s,0,1) else ({ s with progs:=[l]},0,0)
theorem page_program (s:PS) (l:List Step) (hp:s.progs=[]):Tri Tryz.prog 154 [.ptr 0 0,.d (stepsD l)] (pgI s) fun v H=>v=.tup [.i (progR s l).2.1,.i (progR s l).2.2]∧H=pgI (progR s l).1:=by
 refine Tri_of (m:=3) tt_ok Tryz.func154 rfl (by decide) Tryz.ntmps154 (by rfl) rfl ?_
 have h1:=prog_Check l
 obtain ⟨cap,fm,dp,tr,hr,pr,fo,fu,un,ro⟩:=s
 dsimp only at hp
 subst hp
 unfold progR
 cases hb:checkB l
 ·rw[hb] at h1
  rw[if_pos rfl]
  repeat' ((conv=>whnf);(first
   |refine finPI [] rfl rfl rfl rfl (FV_tups ⟨.same _ rfl,.same _ rfl,trivial⟩)
   |refine Fn.use (h1) rfl rfl ?_))
 ·rw[hb] at h1
  rw[if_neg (by simp)]
  have hl:l.length≤16:=by unfold checkB at hb;simp at hb;exact hb.1
  have h2:=clone_steps l (by omega)
  repeat' ((conv=>whnf);(first
   |(refine Ch_r (Need_in ⟨Nat.le_of_ble_eq_true rfl,Nat.le_of_ble_eq_true rfl,by intro r hr;simp[chunkD] at hr;subst hr;rfl⟩ ?_))
   |refine finPI [] rfl rfl rfl rfl (FV_tups ⟨.same _ rfl,.same _ rfl,trivial⟩)
   |refine Len_in (fun hlen=>?_)
   |refine Fn.use (h1) rfl rfl ?_
   |refine W_draw 0 tt_ok mixed (by kernel_rfl) ?_
   |refine CallF_in (h2) rfl rfl ?_
   |refine ArK_in (wrap_i64 (by omega) (by omega)) ?_))
def hearR (s:PS) (a b c:Int) (fl:Bool):PS×Int:=
 if isN s.tree a=false then (s,2) else if inB c 0 ((s.progs.length:Int)-1)=false then (s,1) else
  ({ s with hears:=(addR s.hears ⟨a,b,fl,false,c⟩).1 },(addR s.hears ⟨a,b,fl,false,c⟩).2)
theorem page_hear (s:PS) (d a b c:Int) (fl:Bool) (p:List Step) (hl:s.hears.length≤1000) (hp:s.progs.length≤64):Tri Tryz.prog 156 [.ptr 0 0,aggD (opC d a b c fl p),.b false,.d (.fn 157)] (pgI s) fun v H=>v=.i (hearR s a b c fl).2∧H=pgI (hearR s a b c fl).1:=by
 refine Tri_of (m:=3) tt_ok Tryz.func156 rfl (by decide) Tryz.ntmps156 (by rfl) rfl ?_
 have h1:=page_is s a
 have h2:=page_in c 0 ((s.progs.length:Int)-1)
 have h3:=listen_Add s.hears ⟨a,b,fl,false,c⟩ hl
 unfold hearR
 generalize hA:addR s.hears ⟨a,b,fl,false,c⟩=A at *
 cases hb:isN s.tree a
 ·rw[hb] at h1
  rw[if_pos rfl]
  repeat' ((conv=>whnf);(first
   |refine finPI [] rfl rfl rfl rfl (.same _ rfl)
   |refine Tri.pgS 0 1 2 h1 rfl rfl rfl rfl (by decide) (by decide) (by decide) rfl rfl rfl ?_))
 rw[hb] at h1
 rw[if_neg (by simp)]
 obtain ⟨cap,fm,dp,tr,hr,pr,fo,fu,un,ro⟩:=s
 dsimp only at *
 cases pr with
 |nil=>
  cases hi:inB c 0 ((([]:List (List Step)).length:Int)-1)
  ·rw[hi] at h2
   rw[if_pos rfl]
   repeat' ((conv=>whnf);(first
    |refine finPI [] rfl rfl rfl rfl (.same _ rfl)
    |refine Tri.pgS 0 1 2 h1 rfl rfl rfl rfl (by decide) (by decide) (by decide) rfl rfl rfl ?_
    |refine W_draw 0 tt_ok mixed (by kernel_rfl) ?_
    |refine CallF_in (h2) rfl rfl ?_
    |refine ArK_in (wrap_i64 (by omega) (by omega)) ?_))
  ·unfold inB at hi
   simp at hi
   omega
 |cons x r=>
  have e:(List.map (fun p=>[stepsD p]) (x::r)).length=(x::r).length:=by simp
  rw[← e] at h2
  cases hi:inB c 0 (((x::r).length:Int)-1)
  ·rw[e,hi] at h2
   rw[← e] at h2
   rw[if_pos rfl]
   repeat' ((conv=>whnf);(first
    |refine finPI [] rfl rfl rfl rfl (.same _ rfl)
    |refine Tri.pgS 0 1 2 h1 rfl rfl rfl rfl (by decide) (by decide) (by decide) rfl rfl rfl ?_
    |refine W_draw 0 tt_ok mixed (by kernel_rfl) ?_
    |refine CallF_in (h2) rfl rfl ?_
    |(refine ArK_in (wrap_i64 (by dsimp only;omega) (by dsimp only;omega)) ?_)))
  ·rw[e,hi] at h2
   rw[← e] at h2
   rw[if_neg (by simp)]
   repeat' ((conv=>whnf);(first
    |refine finPI [] rfl rfl rfl rfl (.same _ rfl)
    |refine Tri.pgS 0 1 2 h1 rfl rfl rfl rfl (by decide) (by decide) (by decide) rfl rfl rfl ?_
    |refine W_draw 0 tt_ok mixed (by kernel_rfl) ?_
    |refine CallF_in (h2) rfl rfl ?_
    |(refine ArK_in (wrap_i64 (by dsimp only;omega) (by dsimp only;omega)) ?_)
    |refine CallF_in (h3) rfl rfl ?_))
end Go.Eng
namespace Go.Eng
open Go Go.Proofs
def addRow (s:PS) (r:PRow):PS:={ s with rows:=s.rows++[r]}
theorem rows_add (s:PS) (r:PRow):rowsP (addRow s r)=rowsP s++[r.cs]:=by unfold rowsP addRow;simp
theorem accB_add (s:PS) (r:PRow):AccB (rowsP (addRow s r))=some (.row ((rowsP s++[r.cs]).flatten.map .d)):=by rw[rows_add];exact(Acc_app (b:=0) (sz:=0) (by simp)).2
theorem pgC_add (s:PS) (r:PRow) (k' k c:Nat):splice (pgC s k' c) (0+17) [.msl k 0 ((rowsP s).length+1) ((rowsP s).length+1) 8]=pgC (addRow s r) k c:=by
 have h:=(Acc_app (b:=k) (sz:=8) (rows:=rowsP s) (new:=[r.cs]) (by simp)).1
 rw[← rows_add] at h
 unfold pgC
 rw[h]
 rfl
abbrev Ans:=PS×Bool×Bool×Bool
def calledRow (e:Ev) (at_:Vst) (h:Hear):PRow:=⟨0,h.prog,e.type,at_.node,at_.target,at_.related,at_.phase,0⟩
def fireL (call:PS→Hear→Option Ans) (e:Ev):Nat→PS→Option Hear×List Vst×Vst×List Hear→Bool→Bool→Option (PS×Bool)
 |_,s,(none,_),_,ca=>some (s,ca)
 |0,_,(some _,_),_,_=>none
 |m+1,s,(some h,vs,at_,tk),st,ca=>
  if h.once|| !(Nat.ble s.rows.length 900000) then none else
   match call (addRow s (calledRow e at_ h)) h with
   |none=>none
   |some (s2,a1,a2,a3)=>if Nat.ble s2.hears.length 1000 then fireL call e m s2 (nextR s2.hears e.type (st||(a1||a2)) vs at_ (if a2 then [] else tk)) (st||(a1||a2)) (ca||(a3&&e.cancel)) else none
def fireG (call:PS→Hear→Option Ans) (s:PS) (e:Ev):Option (PS×Bool):=
 if mayB s.tree&&isN s.tree e.target&&Nat.ble s.hears.length 1000 then
  match pathO s.tree e 1000 e.target with
  |none=>none
  |some L=>if Nat.ble L.length 1000 then fireL call e 1000 s (nextR s.hears e.type false (visL e L) vst0 []) false false else none
 else none
def CallC (call:PS→Hear→Option Ans):Prop:= ∀(s:PS) (h:Hear) (s':PS) (a1 a2 a3:Bool),call s h=some (s',a1,a2,a3)→Tri Tryz.prog 298 [.ptr 0 0,aggD h.cs] (pgI s) fun v H=>v=aggD [.bool a1,.bool a2,.bool a3]∧H=pgO s'
def FireC (fire:PS→Ev→Option (PS×Bool)):Prop:= ∀(s:PS) (e:Ev) (s':PS) (b:Bool),fire s e=some (s',b)→Tri Tryz.prog 230 [.ptr 0 0,aggD e.cs] (pgI s) fun v H=>v=.b b∧H=pgO s'
theorem FB_dat {g F:List Nat} {H:Heap} (l:List D):FB g F H (.row (l.map .d)) (.row (l.map .d)):=.row _ _ (Nat.le_refl _) fun i x y hx hy=>by
 rw[hx] at hy
 injection hy with hy
 subst hy
 rw[List.getElem?_map] at hx
 cases hd:l[i]? with
 |none=>rw[hd] at hx;simp at hx
 |some d=>rw[hd] at hx;simp at hx;subst hx;exact .same _ rfl
theorem FB_datE {g F:List Nat} {H:Heap} {xs:List AV} (l:List D) (h:xs=l.map .d):FB g F H (.row xs) (.row (l.map .d)):=by subst h;exact FB_dat l
def firH (s:PS) (e:Ev) (r:Option Hear×List Vst×Vst×List Hear) (st ca:Bool):Heap:=
 [some (.row (pgC s 6 2)),none,some (.mp [] []),some (.row (e.cs.map .d)),some (.row ((runC e r.2.1 r.2.2.1 r.2.2.2 st ca).map .d)),some (.row ((callC r.2.2.1 r.1).map .d)),AccB (rowsP s)]
set_option maxHeartbeats 400000 in
theorem page_fire (call:PS→Hear→Option Ans) (hcall:CallC call):FireC (fireG call):=by
 intro s e s' b hf
 unfold fireG at hf
 split at hf
 rotate_left
 ·simp at hf
 rename_i hg
 simp only[Bool.and_eq_true] at hg
 obtain ⟨⟨hm,hn⟩,hh⟩:=hg
 have hh:=Nat.le_of_ble_eq_true hh
 split at hf
 ·simp at hf
 rename_i L hL
 split at hf
 rotate_left
 ·simp at hf
 rename_i hLl
 have hLl:=Nat.le_of_ble_eq_true hLl
 have hNew:=fire_New s.tree e hm hn 1000 L hLl hL
 have hNx:=fire_Next e (visL e L) vst0 [] false false s.hears hh _ rfl
 generalize nextR s.hears e.type false (visL e L) vst0 []=r0 at *
 refine Tri_of (m:=3) tt_ok Tryz.func230 rfl (by decide) Tryz.ntmps230 (by rfl) rfl ?_
 repeat' ((conv=>whnf);(first
  |refine W_draw 1 tt_ok mixed (by kernel_rfl) ?_
  |refine CallP_in (r:=.ptr 4 0) [some (.row ((runC e (visL e L) vst0 [] false false).map .d))] (fun K' hK=>Tri.call hNew [] rfl rfl trivial rfl rfl rfl rfl rfl rfl hK) ?_
  |refine Tri.on (q:=4) hNx rfl rfl rfl rfl ?_))
 refine W_loop (fun μ s1=> ∃(s2:PS) (r:Option Hear×List Vst×Vst×List Hear) (st ca:Bool),fireL call e μ s2 r st ca=some (s',b)∧
   s1=⟨[(0,.ptr 0 0),(3,.ptr 3 0),(5,.ptr 4 0),(6,.ptr 5 0),(7,.b r.1.isSome)],89,firH s2 e r st ca,3,[]⟩) 1000 ⟨_,?_,s,r0,false,false,hf,rfl⟩ ?_
 ·exact Wk_fzI [0,1,2,3,4,5,1] [0,10,2,3,4,5,1] [] rfl rfl ⟨.inr rfl,.inl rfl,.inr rfl,.inr rfl,.inr rfl,.inr rfl,.inr rfl,trivial⟩ rfl
   ⟨⟨_,rfl,FB_pg rfl rfl⟩,⟨_,rfl,.mp _ _ _ rfl fun i x y h=>by simp at h⟩,⟨_,rfl,FB_datE _ rfl⟩,⟨_,rfl,FB_datE _ rfl⟩,⟨_,rfl,FB_datE _ rfl⟩,HFz_acc rfl trivial⟩
   ⟨.ptr _ _ _ rfl,.ptr _ _ _ rfl,.ptr _ _ _ rfl,.ptr _ _ _ rfl,.same _ rfl,trivial⟩ (by show 3≤7;decide) (by intro i hi;match i,hi with|0,_=>rfl|1,_=>rfl|2,_=>rfl) rfl
 rintro μ s1 ⟨s2,r,st,ca,hL,rfl⟩
 obtain ⟨ro,vs,at_,tk⟩:=r
 refine W_run tt_ok ?_
 cases ro with
 |none=>
  simp only[fireL] at hL
  injection hL with hL
  injection hL with e1 e2
  subst e1 e2
  have hC:=fire_Cancelled e vs at_ tk st ca
  repeat' ((conv=>whnf);(first
   |refine finPO 6 [] (by decide) (by decide) rfl rfl rfl rfl (.same _ rfl)
   |refine Tri.on (q:=4) hC rfl rfl rfl rfl ?_))
 |some h=>
  cases μ with
  |zero=>simp[fireL] at hL
  |succ m=>
  simp only[fireL] at hL
  split at hL
  ·simp at hL
  rename_i hck
  simp only[Bool.not_eq_true,Bool.or_eq_false_iff,Bool.not_eq_false'] at hck
  obtain ⟨hon,hrb⟩:=hck
  have hrb:=Nat.le_of_ble_eq_true hrb
  cases hc:call (addRow s2 (calledRow e at_ h)) h with
  |none=>rw[hc] at hL;simp at hL
  |some a=>
  obtain ⟨s3,a1,a2,a3⟩:=a
  rw[hc] at hL
  simp only at hL
  split at hL
  rotate_left
  ·simp at hL
  rename_i hh3
  have hh3:=Nat.le_of_ble_eq_true hh3
  have hcl:=hcall _ _ _ _ _ _ hc
  have hT:=fire_Tell e vs at_ tk st ca a1 a2 a3
  have hN2:=fire_Next e vs at_ (if a2 then [] else tk) (st||(a1||a2)) (ca||(a3&&e.cancel)) s3.hears hh3 _ rfl
  generalize (if a2 then [] else tk)=tk2 at *
  generalize (st||(a1||a2))=st2 at *
  generalize (ca||(a3&&e.cancel))=ca2 at *
  generalize nextR s3.hears e.type st2 vs at_ tk2=r2 at *
  have hlim:(rowsP s2).length+[(calledRow e at_ h).cs].length≤1000000:=by simp only[rowsP,List.length_map,List.length_cons,List.length_nil];omega
  repeat' ((conv=>whnf);(first
   |refine Br_false hon ?_
   |(refine App_acc (rowsP s2) [(calledRow e at_ h).cs] rfl rfl rfl rfl (by simp) cs8p (by intro r hr;simp at hr;subst hr;rfl) hlim (Nat.le_of_ble_eq_true rfl) ?_)
   |refine W_draw 0 tt_ok mixed (by kernel_rfl) ?_
   |(refine Tri.pg 0 7 2 8 rfl hcl (congrArg (fun x=>some (some (Blk.row x))) (pgC_add s2 (calledRow e at_ h) 6 7 2)) (by rw[accB_add];rfl) rfl (by decide) (by decide) (by decide) rfl rfl rfl ?_)
   |refine Tri.on (q:=4) hT rfl rfl rfl rfl ?_
   |refine Tri.on (q:=4) hN2 rfl rfl rfl rfl ?_
   |refine Back_in _ m ⟨s3,r2,st2,ca2,hL,rfl⟩ (by omega) ?_
   |refine force_in ?_))
  unfold firH
  refine Wk_H [some (.row (pgC s3 8 2)),none,some (.mp [] []),some (.row (e.cs.map .d)),some (.row ((runC e r2.2.1 r2.2.2.1 r2.2.2.2 st2 ca2).map .d)),some (.row ((callC at_ (some h)).map .d)),none,none,AccB (rowsP s3),some (.row ((callC r2.2.2.1 r2.1).map .d))] (by kernel_rfl) ?_
  exact Wk_fzI [0,1,2,3,4,9,8] [0,1,2,3,4,9,8] [] rfl rfl ⟨.inr rfl,.inl rfl,.inr rfl,.inr rfl,.inr rfl,.inr rfl,.inr rfl,trivial⟩ rfl
   ⟨⟨_,rfl,FB_pg rfl rfl⟩,⟨_,rfl,.mp _ _ _ rfl fun i x y h=>by simp at h⟩,⟨_,rfl,FB_dat e.cs⟩,⟨_,rfl,FB_dat (runC e r2.2.1 r2.2.2.1 r2.2.2.2 st2 ca2)⟩,⟨_,rfl,FB_dat (callC r2.2.2.1 r2.1)⟩,HFz_acc rfl trivial⟩
   ⟨.ptr _ _ _ rfl,.ptr _ _ _ rfl,.ptr _ _ _ rfl,.ptr _ _ _ rfl,.same _ rfl,trivial⟩ (by show 3≤7;decide) (by intro i hi;match i,hi with|0,_=>rfl|1,_=>rfl|2,_=>rfl) rfl
end Go.Eng
namespace Go.Eng
open Go Go.Proofs
def toL (fire:PS→Ev→Option (PS×Bool)):List Ev→PS→Option PS
 |[],s=>some s
 |e::r,s=>match fire s e with
  |none=>none
  |some (s',_)=>toL fire r s'
def toG (fire:PS→Ev→Option (PS×Bool)) (s:PS) (k:Int):Option PS:=toL fire (evtsR s.tree s.focus k) { s with focus:=k }
def ToC (toF:PS→Int→Option PS):Prop:= ∀(s:PS) (k:Int) (s':PS),toF s k=some s'→Tri Tryz.prog 164 [.ptr 0 0,.i k] (pgI s) fun v H=>v=.tup []∧H=pgO s'
theorem page_to (fire:PS→Ev→Option (PS×Bool)) (hfire:FireC fire):ToC (toG fire):=by
 intro s k s' ht
 unfold toG at ht
 have hE:=chain_Events s.tree s.focus k
 generalize evtsR s.tree s.focus k=L at *
 have hkl:(List.map Ev.cs L).length=L.length:=by simp
 refine Tri_of (m:=3) tt_ok Tryz.func164 rfl (by decide) Tryz.ntmps164 (by rfl) rfl ?_
 repeat' ((conv=>whnf);(first
  |refine Len_in (fun hlen=>?_)
  |refine Fn.use (hE) rfl rfl ?_))
 refine W_loop (fun μ s1=> ∃(j:Nat) (s2:PS),j≤L.length∧μ=L.length-j∧toL fire (L.drop j) s2=some s'∧
   s1=⟨[(0,.ptr 0 0),(22,.d (evsD L)),(23,.i (List.map Ev.cs L).length),(24,.i j)],32,[some (.row (pgC s2 3 2)),none,some (.mp [] []),AccB (rowsP s2)],3,[]⟩) L.length ⟨_,?_,0,{ s with focus:=k },by omega,by omega,by rw[List.drop_zero];exact ht,rfl⟩ ?_
 ·refine Wk_H (pgI { s with focus:=k }) (by kernel_rfl) ?_
  exact Wk_fzI [0,1,2,1] [0,4,2,1] [] rfl rfl ⟨.inr rfl,.inl rfl,.inr rfl,.inr rfl,trivial⟩ rfl
   ⟨⟨_,rfl,FB_pg rfl rfl⟩,⟨_,rfl,.mp _ _ _ rfl fun i x y h=>by simp at h⟩,HFz_acc rfl trivial⟩
   ⟨.ptr _ _ _ rfl,.same _ rfl,.same _ rfl,.same _ rfl,trivial⟩ (by show 3≤4;decide) (by intro i hi;match i,hi with|0,_=>rfl|1,_=>rfl|2,_=>rfl) rfl
 rintro μ s1 ⟨j,s2,hj,rfl,hL,rfl⟩
 refine W_run tt_ok ?_
 by_cases hlt:j<L.length
 ·have hidx:(L.map Ev.cs)[(j:Int).toNat]? =some (L[j]).cs:=by simp[hlt]
  rw[List.drop_eq_getElem_cons hlt] at hL
  generalize L[j]=e at *
  simp only[toL] at hL
  cases hf:fire s2 e with
  |none=>rw[hf] at hL;simp at hL
  |some a=>
  obtain ⟨s3,b⟩:=a
  rw[hf] at hL
  simp only at hL
  have hF:=hfire _ _ _ _ hf
  repeat' ((conv=>whnf);(first
   |refine Br_true (decide_eq_true (by omega)) ?_
   |refine Idx_in _ hidx (by omega) rfl ?_
   |refine Tri.pg 0 3 2 5 rfl hF rfl rfl rfl (by decide) (by decide) (by decide) rfl rfl rfl ?_
   |refine Back_in _ _ ⟨j+1,s3,by omega,rfl,hL,rfl⟩ (by omega) ?_
   |refine ArK_in (wrap_i64 (by omega) (by omega)) ?_))
  refine Wk_H [some (.row (pgC s3 5 2)),none,some (.mp [] []),none,some (.row (e.cs.map .d)),AccB (rowsP s3)] (by kernel_rfl) ?_
  exact Wk_fzI [0,1,2,5] [0,1,2,5] [] rfl rfl ⟨.inr rfl,.inl rfl,.inr rfl,.inr rfl,trivial⟩ rfl
   ⟨⟨_,rfl,FB_pg rfl rfl⟩,⟨_,rfl,.mp _ _ _ rfl fun i x y h=>by simp at h⟩,HFz_acc rfl trivial⟩
   ⟨.ptr _ _ _ rfl,.same _ rfl,.same _ rfl,.same _ rfl,trivial⟩ (by show 3≤4;decide) (by intro i hi;match i,hi with|0,_=>rfl|1,_=>rfl|2,_=>rfl) rfl
 ·rw[List.drop_eq_nil_of_le (by omega)] at hL
  simp only[toL] at hL
  injection hL with hL
  subst hL
  repeat' ((conv=>whnf);(first
   |refine finPO 3 [] (by decide) (by decide) rfl rfl rfl rfl (.same _ rfl)
   |refine Br_false (decide_eq_false (by omega)) ?_))
def giveG (toF:PS→Int→Option PS) (s:PS) (k:Int):Option (PS×Int):=
 if isN s.tree k=false then some (s,2) else
  match fupO s.tree 1000 k with
  |none=>none
  |some L=>if mayB s.tree&&(Nat.ble L.length 1000&&L.all (isN s.tree))&&(areaB s.tree k L|| !(allOk s.tree k&&delB s.tree k)) then
    if giveR s.tree k L= -1 then some (s,8) else (toF s (giveR s.tree k L)).map fun s'=>(s',0)
   else none
def GiveC (give:PS→Int→Option (PS×Int)):Prop:= ∀(s:PS) (k:Int) (s':PS) (e:Int),give s k=some (s',e)→Tri Tryz.prog 162 [.ptr 0 0,.i k] (pgI s) fun v H=>v=.i e∧H=pgO s'
theorem page_give (toF:PS→Int→Option PS) (hto:ToC toF):GiveC (giveG toF):=by
 intro s k s' e hg
 unfold giveG at hg
 have h1:=page_is s k
 refine Tri_of (m:=3) tt_ok Tryz.func162 rfl (by decide) Tryz.ntmps162 (by rfl) rfl ?_
 cases hb:isN s.tree k
 ·rw[hb] at h1 hg
  rw[if_pos rfl] at hg
  injection hg with hg
  injection hg with e1 e2
  subst e1 e2
  repeat' ((conv=>whnf);(first
   |refine finPO 1 [] (by decide) (by decide) rfl rfl rfl rfl (.same _ rfl)
   |refine Tri.pgS 0 1 2 h1 rfl rfl rfl rfl (by decide) (by decide) (by decide) rfl rfl rfl ?_))
 rw[hb] at h1 hg
 rw[if_neg (by simp)] at hg
 split at hg
 ·simp at hg
 rename_i L hL
 split at hg
 rotate_left
 ·simp at hg
 rename_i hck
 simp only[Bool.and_eq_true,Bool.or_eq_true,Bool.not_eq_true',List.all_eq_true] at hck
 obtain ⟨⟨hm,hl,hN⟩,hd⟩:=hck
 have hl:=Nat.le_of_ble_eq_true hl
 have ha:allOk s.tree k=true:=by unfold allOk;rw[hm,hb];rfl
 have hA:=give_Area s.tree k L (.inr ⟨ha,by omega,1000,hL⟩) hl hN hd
 generalize giveR s.tree k L=a at *
 by_cases h8:a= -1
 ·rw[if_pos h8] at hg
  injection hg with hg
  injection hg with e1 e2
  subst e1 e2 h8
  repeat' ((conv=>whnf);(first
   |refine finPO 1 [] (by decide) (by decide) rfl rfl rfl rfl (.same _ rfl)
   |refine Tri.pgS 0 1 2 h1 rfl rfl rfl rfl (by decide) (by decide) (by decide) rfl rfl rfl ?_
   |refine Fn.use (hA) rfl rfl ?_))
 ·rw[if_neg h8] at hg
  cases ht:toF s a with
  |none=>rw[ht] at hg;simp at hg
  |some s2=>
  rw[ht] at hg
  simp at hg
  obtain ⟨rfl,rfl⟩:=hg
  have hT:=hto _ _ _ ht
  repeat' ((conv=>whnf);(first
   |refine finPO 3 [] (by decide) (by decide) rfl rfl rfl rfl (.same _ rfl)
   |refine Br_false (beqF (by omega)) ?_
   |refine Tri.pgS 0 1 2 h1 rfl rfl rfl rfl (by decide) (by decide) (by decide) rfl rfl rfl ?_
   |refine Fn.use (hA) rfl rfl ?_
   |refine Tri.pg 0 1 2 3 rfl hT rfl rfl rfl (by decide) (by decide) (by decide) rfl rfl rfl ?_))
end Go.Eng
namespace Go.Eng
open Go Go.Proofs
def stepG (give:PS→Int→Option (PS×Int)) (s:PS) (x:Step) (_h:Hear):Option (PS×Int):=
 if x.f=0 then give s x.a else if x.f=11∨x.f=12∨x.f=13 then some (s,0) else none
def StepC (step:PS→Step→Hear→Option (PS×Int)):Prop:= ∀(s:PS) (x:Step) (h:Hear) (s':PS) (e:Int),step s x h=some (s',e)→Tri Tryz.prog 365 [.ptr 0 0,aggD x.cs,aggD h.cs] (pgI s) fun v H=>v=.i e∧H=pgO s'
theorem page_step (give:PS→Int→Option (PS×Int)) (hgive:GiveC give):StepC (stepG give):=by
 intro s x h s' e hs
 unfold stepG at hs
 refine Tri_of (m:=3) tt_ok Tryz.func365 rfl (by decide) Tryz.ntmps365 (by rfl) rfl ?_
 obtain ⟨xf,xa,xb⟩:=x
 dsimp only at hs
 by_cases h0:xf=0
 ·rw[if_pos h0] at hs
  subst h0
  have hG:=hgive _ _ _ _ hs
  repeat' ((conv=>whnf);(first
   |refine finPO 6 [] (by decide) (by decide) rfl rfl rfl rfl (.same _ rfl)
   |refine Lk_some _ rfl ?_
   |refine Tri.pg 0 1 2 6 rfl hG rfl rfl rfl (by decide) (by decide) (by decide) rfl rfl rfl ?_))
 ·rw[if_neg h0] at hs
  split at hs
  rotate_left
  ·simp at hs
  rename_i hx
  injection hs with hs
  injection hs with e1 e2
  subst e1 e2
  rcases hx with rfl|rfl|rfl
  all_goals repeat' ((conv=>whnf);(first
   |refine finPO 1 [] (by decide) (by decide) rfl rfl rfl rfl (.same _ rfl)
   |refine Lk_none rfl ?_))
end Go.Eng
namespace Go.Eng
open Go Go.Proofs
abbrev B3:=Bool×Bool×Bool
def callL (step:PS→Step→Hear→Option (PS×Int)) (h:Hear):List Step→PS→B3→Option (PS×B3×Int)
 |[],s,a=>some (s,a,0)
 |x::r,s,a=>
  if !(Nat.ble s.rows.length 900000)|| !(decide (0≤s.fuel∧s.fuel≤100000)) then none else
  if s.fuel=0 then some (s,a,10) else
   match step { s with fuel:=s.fuel-1 } x h with
   |none=>none
   |some (s2,e)=>if Nat.ble s2.rows.length 900000 then callL step h r (addRow s2 ⟨1,h.prog,0,0,0,0,0,e⟩) (a.1||x.f==11,a.2.1||x.f==12,a.2.2||x.f==13) else none
def doneRow (h:Hear) (e:Int):PRow:=⟨2,h.prog,0,0,0,0,0,e⟩
def callG (step:PS→Step→Hear→Option (PS×Int)) (s:PS) (h:Hear):Option Ans:=
 if !(Nat.ble s.rows.length 900000)|| !(decide (0≤s.under∧s.under≤1000)) then none else
 if s.under≥s.depth then some (addRow s (doneRow h 11),false,false,false) else
  match s.progs with
  |[]=>none
  |p0::pr=>if¬(0≤h.prog∧h.prog<((p0::pr).length:Int)) then none else
   match (p0::pr)[h.prog.toNat]? with
   |none=>none
   |some p=>if !(Nat.ble p.length 1000) then none else match callL step h p { s with under:=s.under+1 } (false,false,false) with
    |none=>none
    |some (s2,a,e)=>if !(Nat.ble s2.rows.length 900000)|| !(decide (0≤s2.under∧s2.under≤1000)) then none else
     some (addRow { s2 with under:=s2.under-1 } (doneRow h e),a.1,a.2.1,a.2.2)
def calH (s:PS) (h:Hear) (a:B3):Heap:=[some (.row (pgC s 7 2)),none,some (.mp [] []),some (.row [.ptr 0 0]),some (.row (h.cs.map .d)),some (.row [.b a.1,.b a.2.1,.b a.2.2]),some (.row [.i 0]),AccB (rowsP s)]
theorem TriD_of {P:Program} {tt:TT} (hT:TTok P tt) {f:FuncId} {fn:Func} {c:Code} (hf:P.funcs[f]? =some fn) (hb:fn.body=some c) (hnm:(fn.name== "runtime.NumGoroutine")=false) {n:Nat} (hn:fn.ntmps=n)
  {args:List AV} {H:Heap} {Q:AV→Heap→Prop} (hargs:Nat.ble args.length n=true) (h:awp P tt none c (RetD tt fn H.length Q) ⟨argEnv args 0,n,H,H.length,[]⟩):TriD P f args H Q:=by
 subst hn
 exact TriD_of_awp hT hf hb hnm hargs (W_run hT h)
set_option maxHeartbeats 1000000 in
theorem page_call (step:PS→Step→Hear→Option (PS×Int)) (hstep:StepC step):CallC (callG step):=by
 intro s h s' b1 b2 b3 hs
 unfold callG at hs
 split at hs
 ·simp at hs
 rename_i hck
 simp only[Bool.not_eq_true,Bool.or_eq_false_iff,Bool.not_eq_false',decide_eq_true_eq] at hck
 obtain ⟨hrb,hun⟩:=hck
 have hrb:=Nat.le_of_ble_eq_true hrb
 refine Tri_of (m:=3) tt_ok Tryz.func298 rfl (by decide) Tryz.ntmps298 (by rfl) rfl ?_
 by_cases hd:s.under≥s.depth
 ·rw[if_pos hd] at hs
  simp only[Option.some.injEq,Prod.mk.injEq] at hs
  obtain ⟨rfl,rfl,rfl,rfl⟩:=hs
  have hlim:(rowsP s).length+[(doneRow h 11).cs].length≤1000000:=by simp only[rowsP,List.length_map,List.length_cons,List.length_nil];omega
  repeat' ((conv=>whnf);(first
   |refine W_float 0 3 113 tt_ok mixed (by kernel_rfl) ?_
   |refine And.intro (fun _=>rfl) ?_
   |(refine App_acc (rowsP s) [(doneRow h 11).cs] rfl rfl rfl rfl (by simp) cs8p (by intro r hr;simp at hr;subst hr;rfl) hlim (Nat.le_of_ble_eq_true rfl) ?_)
   |(refine finPO 7 [] (by decide) (by decide) (congrArg (fun x=>some (some (Blk.row x))) (pgC_add s (doneRow h 11) 1 7 2)) (by rw[accB_add];rfl) rfl rfl (.same _ rfl))
   |refine Br_true (decide_eq_true (by omega)) ?_
   |refine W_dfr tt_ok ?_
   |refine TriD_of tt_ok Tryz.func363 rfl (by decide) Tryz.ntmps363 rfl ?_
   |refine finQ ?_
   |refine force_in ?_))
 ·rw[if_neg hd] at hs
  split at hs
  ·simp at hs
  rename_i p0 pr hpr
  split at hs
  ·simp at hs
  rename_i hpi
  have hpi:0≤h.prog∧h.prog<((p0::pr).length:Int):=by simpa using hpi
  split at hs
  ·simp at hs
  rename_i p hp
  split at hs
  ·simp at hs
  rename_i hpl
  have hpl:p.length≤1000:=Nat.le_of_ble_eq_true (by simpa using hpl)
  split at hs
  ·simp at hs
  rename_i s2 a e hcL
  split at hs
  ·simp at hs
  rename_i hck2
  simp only[Bool.not_eq_true,Bool.or_eq_false_iff,Bool.not_eq_false',decide_eq_true_eq] at hck2
  obtain ⟨hrb2,hun2⟩:=hck2
  have hrb2:=Nat.le_of_ble_eq_true hrb2
  simp only[Option.some.injEq,Prod.mk.injEq] at hs
  obtain ⟨rfl,rfl,rfl,rfl⟩:=hs
  obtain ⟨cap,fm,dp,tr,hr,prs,fo,fu,un,ro⟩:=s
  dsimp only at *
  subst hpr
  have hidx:((p0::pr).map fun p=>[stepsD p])[h.prog.toNat]? =some [stepsD p]:=by rw[List.getElem?_map,hp];rfl
  have hkl:(List.map Step.cs p).length=p.length:=by simp
  repeat' ((conv=>whnf);(first
   |refine W_float 0 3 113 tt_ok mixed (by kernel_rfl) ?_
   |refine Br_false (decide_eq_false (by omega)) ?_
   |refine W_dfr tt_ok ?_
   |refine Idx_in _ hidx (by omega) rfl ?_
   |(refine ArK_in (wrap_i64 (by dsimp only;omega) (by dsimp only;omega)) ?_)))
  refine W_loop (fun μ s1=> ∃(j:Nat) (s3:PS) (a3:B3),j≤p.length∧μ=p.length-j∧callL step h (p.drop j) s3 a3=some (s2,a,e)∧
   s1=⟨[(2,.ptr 3 0),(3,.ptr 4 0),(4,.ptr 5 0),(5,.ptr 6 0),(36,.d (stepsD p)),(37,.i (List.map Step.cs p).length),(38,.i j)],98,calH s3 h a3,3,[.fn 364 [(3,0)],.fn 363 [(3,0),(4,0),(6,0)]]⟩) p.length ⟨_,?_,0,⟨cap,fm,dp,tr,hr,p0::pr,fo,fu,un+1,ro⟩,(false,false,false),by omega,by omega,by rw[List.drop_zero];exact hcL,rfl⟩ ?_
  ·refine Wk_H [some (.row (pgC ⟨cap,fm,dp,tr,hr,p0::pr,fo,fu,un+1,ro⟩ 1 2)),AccB (rowsP ⟨cap,fm,dp,tr,hr,p0::pr,fo,fu,un+1,ro⟩),some (.mp [] []),some (.row [.ptr 0 0]),some (.row (h.cs.map .d)),some (.row [.b false,.b false,.b false]),some (.row [.i 0])] (by kernel_rfl) ?_
   unfold calH
   exact Wk_fzI [0,1,2,3,4,5,6,1] [0,8,2,3,4,5,6,1] [] rfl rfl ⟨.inr rfl,.inl rfl,.inr rfl,.inr rfl,.inr rfl,.inr rfl,.inr rfl,.inr rfl,trivial⟩ rfl
    ⟨⟨_,rfl,FB_pg rfl rfl⟩,⟨_,rfl,.mp _ _ _ rfl fun i x y h=>by simp at h⟩,⟨_,rfl,FB_rows ⟨.ptr _ _ _ rfl,trivial⟩⟩,⟨_,rfl,FB_dat h.cs⟩,⟨_,rfl,FB_rows ⟨.same _ rfl,.same _ rfl,.same _ rfl,trivial⟩⟩,⟨_,rfl,FB_rows ⟨.same _ rfl,trivial⟩⟩,HFz_acc rfl trivial⟩
    ⟨.ptr _ _ _ rfl,.ptr _ _ _ rfl,.ptr _ _ _ rfl,.ptr _ _ _ rfl,.same _ rfl,.same _ rfl,.same _ rfl,trivial⟩ (by show 3≤8;decide) (by intro i hi;match i,hi with|0,_=>rfl|1,_=>rfl|2,_=>rfl) rfl
  rintro μ s1 ⟨j,s3,a3,hj,rfl,hL,rfl⟩
  refine W_run tt_ok ?_
  by_cases hlt:j<p.length
  rotate_left
  ·rw[List.drop_eq_nil_of_le (by omega)] at hL
   simp only[callL,Option.some.injEq,Prod.mk.injEq] at hL
   obtain ⟨rfl,rfl,rfl⟩:=hL
   obtain ⟨a1,a2,a3⟩:=a3
   have hlim:(rowsP s3).length+[(doneRow h 0).cs].length≤1000000:=by simp only[rowsP,List.length_map,List.length_cons,List.length_nil];omega
   repeat' ((conv=>whnf);(first
    |refine W_float 0 3 113 tt_ok mixed (by kernel_rfl) ?_
    |refine And.intro (fun _=>rfl) ?_
    |(refine App_acc (rowsP (s3)) [(doneRow h 0).cs] rfl rfl rfl rfl (by simp) cs8p (by intro r hr;simp at hr;subst hr;rfl) hlim (Nat.le_of_ble_eq_true rfl) ?_)
    |(refine finPO 8 [] (by decide) (by decide) (congrArg (fun x=>some (some (Blk.row x))) (pgC_add ({ s3 with under:=s3.under-1 }) (doneRow h 0) 7 8 2)) (by rw[accB_add];rfl) rfl rfl (.same _ rfl))
    |refine Br_false (decide_eq_false (by omega)) ?_
    |refine TriD_of tt_ok Tryz.func363 rfl (by decide) Tryz.ntmps363 rfl ?_
    |refine TriD_of tt_ok Tryz.func364 rfl (by decide) Tryz.ntmps364 rfl ?_
    |refine finQ ?_
    |refine ArK_in (wrap_i64 (by omega) (by omega)) ?_
    |refine force_in ?_))
  ·have hidx2:(p.map Step.cs)[(j:Int).toNat]? =some (p[j]).cs:=by simp[hlt]
   rw[List.drop_eq_getElem_cons hlt] at hL
   generalize p[j]=x at *
   simp only[callL] at hL
   split at hL
   ·simp at hL
   rename_i hck3
   simp only[Bool.not_eq_true,Bool.or_eq_false_iff,Bool.not_eq_false',decide_eq_true_eq] at hck3
   obtain ⟨hrb3,hfu⟩:=hck3
   have hrb3:=Nat.le_of_ble_eq_true hrb3
   obtain ⟨xf,xa,xb⟩:=x
   obtain ⟨a1,a2,a4⟩:=a3
   dsimp only[Step.cs] at *
   by_cases hf0:s3.fuel=0
   ·rw[if_pos hf0] at hL
    simp only[Option.some.injEq,Prod.mk.injEq] at hL
    obtain ⟨rfl,rfl,rfl⟩:=hL
    have hlim:(rowsP s3).length+[(doneRow h 10).cs].length≤1000000:=by simp only[rowsP,List.length_map,List.length_cons,List.length_nil];omega
    repeat' ((conv=>whnf);(first
     |refine W_float 0 3 113 tt_ok mixed (by kernel_rfl) ?_
     |refine And.intro (fun _=>rfl) ?_
     |(refine App_acc (rowsP (s3)) [(doneRow h 10).cs] rfl rfl rfl rfl (by simp) cs8p (by intro r hr;simp at hr;subst hr;rfl) hlim (Nat.le_of_ble_eq_true rfl) ?_)
     |(refine finPO 9 [] (by decide) (by decide) (congrArg (fun x=>some (some (Blk.row x))) (pgC_add ({ s3 with under:=s3.under-1 }) (doneRow h 10) 7 9 2)) (by rw[accB_add];rfl) rfl rfl (.same _ rfl))
     |refine Br_true (beqT (by omega)) ?_
     |refine Br_true (decide_eq_true (by omega)) ?_
     |refine Idx_in _ hidx2 (by omega) rfl ?_
     |refine TriD_of tt_ok Tryz.func363 rfl (by decide) Tryz.ntmps363 rfl ?_
     |refine TriD_of tt_ok Tryz.func364 rfl (by decide) Tryz.ntmps364 rfl ?_
     |refine finQ ?_
     |refine ArK_in (wrap_i64 (by omega) (by omega)) ?_
     |refine force_in ?_))
   ·rw[if_neg hf0] at hL
    cases hst:step { s3 with fuel:=s3.fuel-1 } ⟨xf,xa,xb⟩ h with
    |none=>rw[hst] at hL;simp at hL
    |some q=>
    obtain ⟨s4,e4⟩:=q
    rw[hst] at hL
    simp only at hL
    split at hL
    rotate_left
    ·simp at hL
    rename_i hrb4
    have hrb4:=Nat.le_of_ble_eq_true hrb4
    have hstp:=hstep _ _ _ _ _ hst
    have hlim:(rowsP s4).length+[(⟨1,h.prog,0,0,0,0,0,e4⟩:PRow).cs].length≤1000000:=by simp only[rowsP,List.length_map,List.length_cons,List.length_nil];omega
    have hone: ∀B1 B2 B3:Bool,callL step h (p.drop (j+1)) (addRow s4 ⟨1,h.prog,0,0,0,0,0,e4⟩) (B1,B2,B3)=some (s2,a,e)→ ∀(ρ:Env) (n m:Nat) (df:List DF) (z:St),Wk ⟨ρ,n,[some (.row (pgC (addRow s4 ⟨1,h.prog,0,0,0,0,0,e4⟩) 10 2)),none,some (.mp [] []),some (.row [.ptr 0 0]),some (.row (h.cs.map .d)),some (.row [.b B1,.b B2,.b B3]),some (.row [.i 0]),none,some (.row [.i xf,.i xa,.i xb]),none,AccB (rowsP (addRow s4 ⟨1,h.prog,0,0,0,0,0,e4⟩))],m,df⟩ z→
      Wk ⟨ρ,n,[some (.row (splice (pgC s4 9 2) (0+17) [.msl 10 0 ((rowsP s4).length+1) ((rowsP s4).length+1) 8])),none,some (.mp [] []),some (.row [.ptr 0 0]),some (.row (h.cs.map .d)),some (.row [.b B1,.b B2,.b B3]),some (.row [.i 0]),none,some (.row [.i xf,.i xa,.i xb]),none,some (.row ((rowsP s4++[(⟨1,h.prog,0,0,0,0,0,e4⟩:PRow).cs]).flatten.map .d))],m,df⟩ z:=by
     intro B1 B2 B3 _ ρ n m df z hz
     rw[accB_add,←pgC_add s4 ⟨1,h.prog,0,0,0,0,0,e4⟩ 9] at hz
     exact hz
    cases a1 <;> cases a2 <;> cases a4
    repeat' ((conv=>whnf);(first
     |refine W_float (id:=17) 0 8 3 tt_ok mixed (by kernel_rfl) ?_
     |refine W_float 0 3 113 tt_ok mixed (by kernel_rfl) ?_
     |refine And.intro (fun _=>rfl) ?_
     |(refine App_acc (rowsP s4) [(⟨1,h.prog,0,0,0,0,0,e4⟩:PRow).cs] rfl rfl rfl rfl (by simp) cs8p (by intro r hr;simp at hr;subst hr;rfl) hlim (Nat.le_of_ble_eq_true rfl) ?_)
     |refine Br_false (beqF (by omega)) ?_
     |refine Br_true (decide_eq_true (by omega)) ?_
     |refine Idx_in _ hidx2 (by omega) rfl ?_
     |refine Tri.pg 0 7 2 9 rfl hstp rfl rfl rfl (by decide) (by decide) (by decide) rfl rfl rfl ?_
     |refine Back_in _ (p.length-(j+1)) ⟨j+1,addRow s4 ⟨1,h.prog,0,0,0,0,0,e4⟩,(_,_,_),by omega,rfl,hL,rfl⟩ (by omega) ?_
     |refine ArK_in (wrap_i64 (by omega) (by omega)) ?_
     |refine force_in ?_))
    all_goals refine Wk_H _ (by kernel_rfl) (hone _ _ _ hL _ _ _ _ _ ?_)
    all_goals unfold calH
    all_goals refine Wk_fzI [0,1,2,3,4,5,6,10] [0,1,2,3,4,5,6,10] [] ?_ ?_ ?_ ?_ ?_ ?_ ?_ ?_ ?_
    all_goals first
     |exact⟨.inr rfl,.inl rfl,.inr rfl,.inr rfl,.inr rfl,.inr rfl,.inr rfl,.inr rfl,trivial⟩
     |exact⟨⟨_,rfl,FB_pg rfl rfl⟩,⟨_,rfl,.mp _ _ _ rfl fun i x y h=>by simp at h⟩,⟨_,rfl,FB_rows ⟨.ptr _ _ _ rfl,trivial⟩⟩,⟨_,rfl,FB_dat h.cs⟩,⟨_,rfl,FB_rows ⟨.same _ rfl,.same _ rfl,.same _ rfl,trivial⟩⟩,⟨_,rfl,FB_rows ⟨.same _ rfl,trivial⟩⟩,HFz_acc rfl trivial⟩
     |exact⟨.ptr _ _ _ rfl,.ptr _ _ _ rfl,.ptr _ _ _ rfl,.ptr _ _ _ rfl,.same _ rfl,.same _ rfl,.same _ rfl,trivial⟩
     |(show 3≤8;decide)
     |(intro i hi;match i,hi with|0,_=>rfl|1,_=>rfl|2,_=>rfl)
     |rfl
end Go.Eng
namespace Go.Eng
open Go Go.Proofs
theorem renL_i (g:Nat→Nat) (l:List Int):renL g (l.map AV.i)=l.map AV.i:=by
 induction l with
 |nil=>rfl
 |cons a r ih=>simp only[List.map_cons,renL,ih];rfl
def kiC (l:List Int) (b:Nat):AV:=if l=[] then .esl else .msl b 0 l.length l.length 1
def kiH (l:List Int):Heap:=if l=[] then [] else [some (.row (l.map AV.i))]
theorem cloneK (l:List Int) (hl:l.length≤1000):Tri Tryz.prog 190 [.d (ints l)] [] fun v H=>v=kiC l 0∧H=kiH l:=by
 by_cases h0:l=[]
 rotate_left
 ·unfold kiC kiH
  rw[if_neg h0,if_neg h0]
  exact cloneOwn_ints l h0 hl
 subst h0
 refine Tri_of (m:=0) tt_ok Tryz.func190 rfl (by decide) Tryz.ntmps190 (by rfl) rfl ?_
 refine Nil_in fun b hb=>?_
 cases b
 ·skip
  refine Ch_r ?_
  skip
  refine Ch_l ?_
  repeat' ((conv=>whnf);(first
   |refine Need_in rfl ?_
   |refine finQ ⟨rfl,rfl⟩))
 ·repeat' ((conv=>whnf);(first
  |refine finW (Fin_all (F:=[]) .nesl) ⟨rfl,rfl⟩))
theorem ownK_call (l:List Int) (hl:l.length≤1000) (H:Heap) (K:AV→Heap→Prop) (hK:K (kiC l H.length) (H++kiH l)):Tri Tryz.prog 190 [.d (ints l)] H K:=by
 have h:=cloneK l hl
 unfold kiC kiH at *
 by_cases h0:l=[]
 ·simp only[h0,if_true,List.append_nil] at hK
  subst h0
  simp only[if_true] at h
  exact Tri.call h [] rfl rfl trivial rfl rfl rfl rfl rfl (by rw[patch_nil];simp[renH]) hK
 ·simp only[h0,if_false] at hK h
  exact Tri.call h [] rfl rfl trivial rfl rfl rfl rfl (r:=.msl H.length 0 l.length l.length 1) (by simp[ren,hmap_nil]) (by rw[patch_nil];simp only[renH,List.map_cons,List.map_nil,Option.map,renB,renL_i]) hK
def tabK (t:Tree) (n:Nat) (c:AV):List AV:=(tabT t).set (n * 7+3) c
theorem tabK_len (t:Tree) (n:Nat) (c:AV):(tabK t n c).length=t.length * 7:=by unfold tabK;rw[List.length_set,tabT_len]
theorem copy_ownK (t:Tree) (n:Nat) (hn:n<t.length) (hs:SmallT t):
  Tri Tryz.prog 189 [.d (treeD t)] [] fun v H=>v=.msl 0 0 t.length t.length 7∧H=some (.row (tabK t n (kiC (t[n]).kids 1)))::kiH (t[n]).kids:=by
 refine Tri_of (m:=0) tt_ok Tryz.func189 rfl (by decide) Tryz.ntmps189 (by rfl) rfl ?_
 have hne:t≠[]:=by rintro rfl;simp at hn
 refine Tri.tab (clone_tree t hne hs.1) rfl ?_
 have hpush:(List.map Node.cs t).flatten.map AV.d=tabT t:=rfl
 rw[hpush]
 repeat' ((conv=>whnf);(first
  |refine Len_in (fun hlen=>?_)))
 have hal:=(hs.2 _ (List.getElem_mem hn)).1
 refine W_loop (fun μ s=> ∃(k:Nat) (T:List AV) (rest:Heap),k≤t.length∧μ=t.length-k∧(k≤n→T=tabT t∧rest=[])∧(n<k→T=tabK t n (kiC (t[n]).kids 1)∧rest=kiH (t[n]).kids)∧
   s=⟨[(3,.msl 0 0 t.length t.length 7),(8,.i t.length),(9,.i k)],34,some (.row T)::rest,0,[]⟩) t.length
  ⟨_,?_,0,tabT t,[],by omega,by omega,fun _=>⟨rfl,rfl⟩,fun h=>absurd h (Nat.not_lt_zero _),rfl⟩ ?_
 ·exact Wk_env (by repeat (first|exact trivial|refine⟨rfl,?_⟩))
 rintro μ s1 ⟨k,T,rest,hk,rfl,h1,h2,rfl⟩
 refine W_run tt_ok ?_
 by_cases hlt:k<t.length
 rotate_left
 ·obtain ⟨rfl,rfl⟩:=h2 (by omega)
  repeat' ((conv=>whnf);(first
   |refine Br_false (decide_eq_false (by omega)) ?_
   |refine finQ ⟨rfl,rfl⟩))
 have hmk:=hs.2 _ (List.getElem_mem hlt)
 have hTl:T.length=t.length * 7:=by
  by_cases h:k≤n
  ·rw[(h1 h).1,tabT_len]
  ·rw[(h2 (by omega)).1,tabK_len]
 have g6:T[0+(k:Int).toNat * 7+6]? =some (.d (attrsD (t[k]).attrs)):=by
  rw[show 0+(k:Int).toNat * 7+6=k * 7+6 by omega]
  have h0:=tabT_get t k 6 hlt _ rfl (by omega)
  by_cases h:k≤n
  ·rw[(h1 h).1];exact h0
  ·rw[(h2 (by omega)).1];unfold tabK;rw[List.getElem?_set_ne (by omega)];exact h0
 by_cases hkn:k=n
 rotate_left
 ·have g3:T[0+(k:Int).toNat * 7+3]? =some (.d (ints (t[k]).kids)):=by
   rw[show 0+(k:Int).toNat * 7+3=k * 7+3 by omega]
   have h0:=tabT_get t k 3 hlt _ rfl (by omega)
   by_cases h:k≤n
   ·rw[(h1 h).1];exact h0
   ·rw[(h2 (by omega)).1];unfold tabK;rw[List.getElem?_set_ne (by omega)];exact h0
  have e:splice (splice T (0+(k:Int).toNat * 7+3) [.d (ints (t[k]).kids)]) (0+(k:Int).toNat * 7+6) [.d (attrsD (t[k]).attrs)]=T:=by
   rw[splice_same g3,splice_same g6]
  repeat' ((conv=>whnf);(first
   |(refine Br_true (Nat.ble_eq_true_of_le (by rw[hTl];simp;omega)) ?_)
   |(refine Br_true (Nat.ble_eq_true_of_le (by rw[splice_length,hTl];simp;omega)) ?_)
   |refine Br_true (decide_eq_true (by omega)) ?_
   |refine W_draw 0 tt_ok mixed (by kernel_rfl) ?_
   |refine Cell_in _ g3 ?_
   |refine Cell_in _ g6 ?_
   |refine CallF_in (clone_ints _ hmk.1) rfl rfl ?_
   |refine CallF_in (clone_attrs _ hmk.2) rfl rfl ?_
   |refine Back_in _ _ ⟨k+1,_,rest,by omega,rfl,fun h=>⟨e.trans (h1 (by omega)).1,(h1 (by omega)).2⟩,fun h=>⟨e.trans (h2 (by omega)).1,(h2 (by omega)).2⟩,rfl⟩ (by omega) (Wk_env (by repeat (first|exact trivial|refine⟨rfl,?_⟩)))
   |refine ArK_in (wrap_i64 (by omega) (by omega)) ?_))
 ·obtain ⟨rfl,rfl⟩:=h1 (by omega)
  subst hkn
  have g3:(tabT t)[0+(k:Int).toNat * 7+3]? =some (.d (ints (t[k]).kids)):=by
   rw[show 0+(k:Int).toNat * 7+3=k * 7+3 by omega]
   exact tabT_get t k 3 hlt _ rfl (by omega)
  have e: ∀c:AV,splice (splice (tabT t) (0+(k:Int).toNat * 7+3) [c]) (0+(k:Int).toNat * 7+6) [.d (attrsD (t[k]).attrs)]=tabK t k c:=fun c=>by
   rw[splice_same (by rw[show 0+(k:Int).toNat * 7+6=k * 7+6 by omega] at g6 ⊢;simp only[splice];rw[List.getElem?_set_ne (by omega)];exact g6)]
   unfold tabK
   simp only[splice]
   rw[show 0+(k:Int).toNat * 7+3=k * 7+3 by omega]
  have oc:=ownK_call (t[k]).kids hal
  by_cases h0:(t[k]).kids=[]
  ·have ec: ∀b,kiC (t[k]).kids b=.esl:=fun b=>by unfold kiC;rw[if_pos h0]
   have eh:kiH (t[k]).kids=[]:=by unfold kiH;rw[if_pos h0]
   simp only[ec,eh] at oc⊢
   repeat' ((conv=>whnf);(first
    |(refine Br_true (Nat.ble_eq_true_of_le (by rw[hTl];simp;omega)) ?_)
    |(refine Br_true (Nat.ble_eq_true_of_le (by rw[splice_length,hTl];simp;omega)) ?_)
    |refine Br_true (decide_eq_true (by omega)) ?_
    |refine W_draw 1 tt_ok mixed (by kernel_rfl) ?_
    |refine Cell_in _ g3 ?_
    |refine Cell_in _ g6 ?_
    |refine CallP_in [] (fun K' hK'=>oc _ K' hK') ?_
    |refine CallP_in [] (fun K' hK'=>Fn.use (clone_attrs _ hmk.2) rfl rfl hK') ?_
    |refine Back_in _ _ ⟨k+1,_,[],by omega,rfl,fun h=>by omega,fun h=>⟨e _,rfl⟩,rfl⟩ (by omega) (Wk_env (by repeat (first|exact trivial|refine⟨rfl,?_⟩)))
    |refine ArK_in (wrap_i64 (by omega) (by omega)) ?_))
  ·have ec: ∀b,kiC (t[k]).kids b=.msl b 0 (t[k]).kids.length (t[k]).kids.length 1:=fun b=>by unfold kiC;rw[if_neg h0]
   have eh:kiH (t[k]).kids=[some (.row ((t[k]).kids.map AV.i))]:=by unfold kiH;rw[if_neg h0]
   simp only[ec,eh] at oc⊢
   repeat' ((conv=>whnf);(first
    |(refine Br_true (Nat.ble_eq_true_of_le (by rw[hTl];simp;omega)) ?_)
    |(refine Br_true (Nat.ble_eq_true_of_le (by rw[splice_length,hTl];simp;omega)) ?_)
    |refine Br_true (decide_eq_true (by omega)) ?_
    |refine W_draw 1 tt_ok mixed (by kernel_rfl) ?_
    |refine Cell_in _ g3 ?_
    |refine Cell_in _ g6 ?_
    |refine CallP_in _ (fun K' hK'=>oc _ K' hK') ?_
    |refine CallP_in [] (fun K' hK'=>Fn.use (clone_attrs _ hmk.2) rfl rfl hK') ?_
    |refine Back_in _ _ ⟨k+1,_,_,by omega,rfl,fun h=>by omega,fun h=>⟨e _,rfl⟩,rfl⟩ (by omega) (Wk_env (by repeat (first|exact trivial|refine⟨rfl,?_⟩)))
    |refine ArK_in (wrap_i64 (by omega) (by omega)) ?_))
theorem ren_tabK (g:Nat→Nat) (t:Tree) (n:Nat) (c:AV):renL g (tabK t n c)=tabK t n (ren g c):=by
 unfold tabK tabT;rw[renL_set,renL_d]
theorem copyK_call (t:Tree) (n:Int) (h:isN t n=true) (hs:SmallT t) {H:Heap} {K:AV→Heap→Prop}
  (hK:K (.msl H.length 0 t.length t.length 7) (H++(some (.row (tabK t n.toNat (kiC (nd t n).kids (H.length+1))))::kiH (nd t n).kids))):Tri Tryz.prog 189 [.d (treeD t)] H K:=by
 obtain ⟨hl,hn⟩:=nd_get h
 have hcopy:=copy_ownK t n.toNat hl hs
 have en:t[n.toNat]=nd t n:=by
  obtain ⟨_,e⟩:=List.getElem?_eq_some_iff.1 hn;exact e
 rw[en] at hcopy
 by_cases hnil:(nd t n).kids=[]
 ·have ec: ∀b,kiC (nd t n).kids b=.esl:=fun b=>by unfold kiC;rw[if_pos hnil]
  have eh:kiH (nd t n).kids=[]:=by unfold kiH;rw[if_pos hnil]
  rw[ec,eh] at hcopy hK
  refine Tri.call hcopy [] rfl rfl trivial rfl rfl rfl rfl (r:=.msl H.length 0 t.length t.length 7) (by simp[ren,hmap_nil]) (by rw[patch_nil];simp only[renH,List.map_cons,List.map_nil,Option.map,renB,ren_tabK,ren]) hK
 ·have ec: ∀b,kiC (nd t n).kids b=.msl b 0 (nd t n).kids.length (nd t n).kids.length 1:=fun b=>by unfold kiC;rw[if_neg hnil]
  have eh:kiH (nd t n).kids=[some (.row ((nd t n).kids.map AV.i))]:=by unfold kiH;rw[if_neg hnil]
  rw[ec,eh] at hcopy hK
  refine Tri.call hcopy [] rfl rfl trivial rfl rfl rfl rfl (r:=.msl H.length 0 t.length t.length 7) (by simp[ren,hmap_nil]) (by rw[patch_nil];simp only[renH,List.map_cons,List.map_nil,Option.map,renB,ren_tabK,ren,hmap_nil,renL_i]) hK
end Go.Eng
namespace Go.Eng
open Go Go.Proofs
theorem ins_esl (x:Int) (a b d:Option Blk) (K:AV→Heap→Prop) (hK:K (.msl 3 0 1 1 1) [a,b,d,some (.row ([x].map AV.i))]):
  Tri Tryz.prog 213 [.esl,.i 0,.d (ints [x])] [a,b,d] K:=by
 refine Tri_of (m:=3) tt_ok Tryz.func213 rfl (by decide) Tryz.ntmps213 (by rfl) rfl ?_
 repeat' ((conv=>whnf);(first
  |refine Len_in (fun hlen=>?_)
  |refine Need_in ⟨rfl,rfl⟩ ?_
  |refine App_esl [[.int .i64 x]] rfl rfl (by simp) (by simp) (by simp) (Nat.le_of_ble_eq_true rfl) ?_
  |refine finQ ?_))
 exact hK
theorem ins_own (l:List Int) (x:Int) (hne:l≠[]) (hl:l.length≤1000) (a b d:Option Blk) (K:AV→Heap→Prop) (hK:K (.msl 4 0 (l.length+1) (l.length+1) 1) [a,b,none,d,some (.row ((l++[x]).map AV.i))]):
  Tri Tryz.prog 213 [.msl 2 0 l.length l.length 1,.i l.length,.d (ints [x])] [a,b,some (.row (l.map AV.i)),d] K:=by
 refine Tri_of (m:=4) tt_ok Tryz.func213 rfl (by decide) Tryz.ntmps213 (by rfl) rfl ?_
 have e:(l.map intCs).length=l.length:=by simp
 have hb:some (some (Blk.row (l.map AV.i)))=some (some (.row ((l.map intCs).flatten.map .d))):=by rw[intsA]
 have hr:((l.map intCs++[[D.int .i64 x]]).flatten).map AV.d=(l++[x]).map AV.i:=by rw[← intsA];simp[intCs]
 rw[← hr,←e] at hK
 repeat' ((conv=>whnf);(first
  |(refine App_msl (l.map intCs) [[.int .i64 x]] (by simpa using hne) (by simp) hb rfl rfl rfl (by simp) cs1 (by simp) (by simp;omega) (Nat.le_of_ble_eq_true rfl) ?_)
  |refine Br_true (beqT (by omega)) ?_
  |refine Len_in (fun hlen=>?_)
  |refine Ch_r (Need_in ⟨by omega,rfl,by omega⟩ ?_)
  |refine finQ ?_))
 exact hK
def putKid (t:Tree) (a b:Int):Tree:=(t.set a.toNat { nd t a with kids:=(nd t a).kids++[b]}).set b.toNat { nd t b with parent:=a }
theorem flat_put {t:Tree} {n:Int} (h:isN t n=true) (x:Node) (j:Nat) (d:D) (hj:j<7) (hx:x.cs=(nd t n).cs.set j d):((t.set n.toNat x).map Node.cs).flatten=((t.map Node.cs).flatten).set (n.toNat * 7+j) d:=by
 have:=splice_flat (t.map Node.cs) n.toNat j (nd t n).cs d cs7 (nd_row h) hj
 simp only[splice] at this
 rw[← List.map_set] at this
 rw[List.map_set,hx]
 exact(map_d_inj this).symm
theorem nd_set {t:Tree} {a b:Int} (x:Node) (h:a.toNat≠b.toNat):nd (t.set a.toNat x) b=nd t b:=by
 unfold nd
 rw[List.getD_eq_getElem?_getD,List.getD_eq_getElem?_getD,List.getElem?_set_ne h]
theorem isN_set {t:Tree} {a b:Int} (x:Node):isN (t.set a.toNat x) b=isN t b:=by
 unfold isN;rw[List.length_set]
theorem flat_putKid {t:Tree} {a b:Int} (ha:isN t a=true) (hb:isN t b=true) (hab:a≠b):
  ((putKid t a b).map Node.cs).flatten=(((t.map Node.cs).flatten).set (a.toNat * 7+3) (ints ((nd t a).kids++[b]))).set (b.toNat * 7+2) (.int .i64 a):=by
 have h1:=nd_pos ha
 have h2:=nd_pos hb
 unfold putKid
 rw[flat_put (t:=t.set a.toNat _) (n:=b) (by rw[isN_set];exact hb) _ 2 (.int .i64 a) (by omega) (by rw[nd_set _ (by omega)];rfl),flat_put ha _ 3 (ints ((nd t a).kids++[b])) (by omega) rfl]
def tabP (t:Tree) (a b:Int) (c:AV):List AV:=splice (tabK t a.toNat c) (0+b.toNat * 7+2) [.i a]
theorem FV_tabP {t:Tree} {a b:Int} (ha:isN t a=true) (hb:isN t b=true) (hab:a≠b) {H:Heap} {p q:Nat} (h0:H[p]? =some (some (.row (tabP t a b (.msl q 0 ((nd t a).kids.length+1) ((nd t a).kids.length+1) 1)))))
  (hq:H[q]? =some (some (.row (((nd t a).kids++[b]).map AV.i)))):FV [] [p,q] H (.msl p 0 t.length t.length 7) (.d (treeD (putKid t a b))):=by
 have hlp:(putKid t a b).length=t.length:=by unfold putKid;simp
 refine .frz p 0 _ _ 7 (tabP t a b (.msl q 0 ((nd t a).kids.length+1) ((nd t a).kids.length+1) 1)) ((putKid t a b).map Node.cs) (by simp) (by unfold rowOf;rw[h0]) (by rw[List.length_map,hlp]) cs7 (by unfold tabP;rw[splice_length,tabK_len];omega) fun i x y hi hx hy=>?_
 rw[flat_putKid ha hb hab] at hy
 unfold tabP tabK tabT at hx
 simp only[splice] at hx
 simp only[Nat.zero_add] at hx
 rw[List.getElem?_set] at hx hy
 have hll:(((t.map Node.cs).flatten.map AV.d).set (a.toNat * 7+3) (.msl q 0 ((nd t a).kids.length+1) ((nd t a).kids.length+1) 1)).length=(((t.map Node.cs).flatten).set (a.toNat * 7+3) (ints ((nd t a).kids++[b]))).length:=by rw[List.length_set,List.length_set,List.length_map]
 rw[hll] at hx
 by_cases e2:b.toNat * 7+2=i
 ·rw[if_pos e2] at hx hy
  split at hx
  ·rename_i hlt
   rw[if_pos hlt] at hy
   injection hx with hx
   injection hy with hy
   subst hx hy
   exact .same _ rfl
  ·simp at hx
 rw[if_neg e2] at hx hy
 rw[List.getElem?_set] at hx hy
 rw[List.length_map] at hx
 by_cases e3:a.toNat * 7+3=i
 ·rw[if_pos e3] at hx hy
  split at hx
  ·rename_i hlt
   rw[if_pos hlt] at hy
   injection hx with hx
   injection hy with hy
   subst hx hy
   refine .frz q 0 _ _ 1 (((nd t a).kids++[b]).map AV.i) (((nd t a).kids++[b]).map intCs) (by simp) (by unfold rowOf;rw[hq]) (by simp) cs1 (by simp) fun i x y hi hx hy=>?_
   rw[Nat.zero_add,←intsA,List.getElem?_map,hy] at hx
   simp at hx
   subst hx
   exact .same _ rfl
  ·simp at hx
 rw[if_neg e3] at hx hy
 rw[List.getElem?_map,hy] at hx
 simp at hx
 subst hx
 exact .same _ rfl
end Go.Eng
namespace Go.Eng
open Go Go.Proofs
def insOk (t:Tree) (a b:Int):Bool:=
 mayB t&&isN t a&&isN t b&&decide ((nd t a).kind≠2)&&decide ((nd t b).kind≠0)&&decide ((nd t b).kind≠3)&&((climb t (t.length+1) a).all fun x=>decide (x≠b))&&decide ((nd t b).parent= -1)&&decide (a≠b)&&((nd t a).kids.all fun x=>decide (0≤x))
theorem kids_none {l:List Int} (h: ∀x∈l,0≤x):ix (· == -1) l= -1:=by
 induction l with
 |nil=>rfl
 |cons a r ih=>
  have h1:=h a (by simp)
  have h2:=ih fun x hx=>h x (by simp[hx])
  simp only[ix]
  rw[if_neg (by simp;omega),h2]
  rfl
theorem FV_kidsO {l:List Int} {H:Heap} {q:Nat} (hq:H[q]? =some (some (.row (l.map AV.i)))):FV [] [q] H (.msl q 0 l.length l.length 1) (.d (ints l)):=
 FV_tab (cs:=l.map AV.i) (l.map intCs) (by unfold rowOf;rw[hq]) (intsA l).symm (by simp) cs1
theorem tabK_get3 (t:Tree) (n:Nat) (c:AV) (h:n<t.length):(tabK t n c)[0+n * 7+3]? =some c:=by
 rw[show 0+n * 7+3=n * 7+3 by omega]
 unfold tabK
 exact List.getElem?_set_self (by rw[tabT_len];omega)
theorem tabK_set (t:Tree) (n:Nat) (c d:AV):splice (tabK t n c) (0+n * 7+3) [d]=tabK t n d:=by
 unfold tabK
 simp only[splice]
 rw[show 0+n * 7+3=n * 7+3 by omega,List.set_set]
theorem tabK_par {t:Tree} {a b:Int} (hb:isN t b=true) (c:AV):(tabK t a.toNat c)[0+b.toNat * 7+2]? =some (.i (nd t b).parent):=by
 obtain ⟨hl,hn⟩:=nd_get hb
 obtain ⟨_,en⟩:=List.getElem?_eq_some_iff.1 hn
 unfold tabK
 rw[show 0+b.toNat * 7+2=b.toNat * 7+2 by omega,List.getElem?_set_ne (by omega)]
 exact tabT_get t b.toNat 2 hl (.int .i64 (nd t b).parent) (by rw[en];rfl) (by omega)
theorem tree_Insert (t:Tree) (a b:Int) (hs:SmallT t) (ho:insOk t a b=true):Fn Tryz.prog 146 [.d (treeD t),aggD [.int .i64 a,.int .i64 b,.int .i64 (-1)]] (.tup [.d (treeD (putKid t a b)),.i 0]):=by
 unfold insOk at ho
 simp only[Bool.and_eq_true,decide_eq_true_eq,List.all_eq_true] at ho
 obtain ⟨⟨⟨⟨⟨⟨⟨⟨⟨hm,ha⟩,hb⟩,k1⟩,k2⟩,k3⟩,hcl⟩,hpar⟩,hab⟩,hkid⟩:=ho
 have hM:=tree_may t
 rw[hm] at hM
 have hw:=tree_wrong t a b hm ha hb k1 k2 k3 hcl
 obtain ⟨hla,hna⟩:=nd_get ha
 obtain ⟨hlb,hnb⟩:=nd_get hb
 have pa:=nd_pos ha
 have pb:=nd_pos hb
 have hk1000:=(hs.2 _ (nd_mem ha)).1
 have hix:=kids_none hkid
 have hIx:=index_int (nd t a).kids (-1)
 rw[hix] at hIx
 have hcp:=fun {H:Heap} {K:AV→Heap→Prop} hK=>copyK_call t a ha hs (H:=H) (K:=K) hK
 have ba:0≤a∧a<(t.length:Int):=⟨pa,by omega⟩
 have bb:0≤b∧b<(t.length:Int):=⟨pb,by omega⟩
 refine Fn_of tt_ok Tryz.func146 rfl (by decide) Tryz.ntmps146 rfl ?_
 by_cases hnil:(nd t a).kids=[]
 ·have ec: ∀x,kiC (nd t a).kids x=.esl:=fun x=>by unfold kiC;rw[if_pos hnil]
  have eh:kiH (nd t a).kids=[]:=by unfold kiH;rw[if_pos hnil]
  rw[eh] at hcp
  simp only[ec] at hcp
  have gp:=tabK_par (a:=a) hb .esl
  rw[hpar] at gp
  have g3:=tabK_get3 t a.toNat .esl hla
  have hpeek: ∀(H:Heap) (K:AV→Heap→Prop),K (.i (-1)) H→Tri Tryz.prog 212 [.esl,.i (-1)] H K:=fun H K hK=>
   Tri.peek hIx rfl [] rfl (fun i x y hx hy=>by
    match i with
    |0=>simp at hx hy;subst hx hy;rw[hnil];exact .esl
    |1=>simp at hx hy;subst hx hy;exact .same _ rfl
    |i+2=>simp at hx) hK
  have hb1:some (some (Blk.row (splice (splice (tabK t a.toNat .esl) (0+a.toNat * 7+3) [.msl 3 0 1 1 1]) (0+b.toNat * 7+2) [.i a])))=some (some (.row (tabP t a b (.msl 3 0 ((nd t a).kids.length+1) ((nd t a).kids.length+1) 1)))):=by
   unfold tabP;rw[tabK_set,hnil];rfl
  have hb2:some (some (Blk.row ([b].map AV.i)))=some (some (.row (((nd t a).kids++[b]).map AV.i))):=by rw[hnil];rfl
  repeat' ((conv=>whnf);(first
   |refine finD (F:=[1,3]) (FV_tup2 (FV_tabP ha hb hab (p:=1) (q:=3) hb1 hb2) (.same _ rfl))
   |refine Br_false (beqF (by omega:(-1:Int)≠b)) ?_
   |refine W_float (id:=13) 2 0 3 tt_ok mixed (by kernel_rfl) ?_
   |refine And.intro (fun _=>rfl) ?_
   |(refine Br_true (Nat.ble_eq_true_of_le (by rw[tabK_len];simp;omega)) ?_)
   |(refine Br_true (Nat.ble_eq_true_of_le (by rw[splice_length,tabK_len];simp;omega)) ?_)
   |refine Br_true (decide_eq_true (by omega)) ?_
   |refine Fn.use (hM) rfl rfl ?_
   |refine Fn.use (hw) rfl rfl ?_
   |refine hcp ?_
   |refine Cell_in _ gp ?_
   |refine Cell_in _ g3 ?_
   |refine Tri_of tt_ok Tryz.func211 rfl (by decide) Tryz.ntmps211 rfl rfl ?_
   |refine finQ ?_
   |refine W_draw 2 tt_ok mixed (by kernel_rfl) ?_
   |refine CallH_in _ (Nat.le_refl _) (fun K' hK'=>hpeek _ K' hK') ?_
   |refine CallH_in _ (Nat.le_of_ble_eq_true rfl) (fun K' hK'=>ins_esl b _ _ _ K' hK') ?_))
 ·have ec: ∀x,kiC (nd t a).kids x=.msl x 0 (nd t a).kids.length (nd t a).kids.length 1:=fun x=>by unfold kiC;rw[if_neg hnil]
  have eh:kiH (nd t a).kids=[some (.row ((nd t a).kids.map AV.i))]:=by unfold kiH;rw[if_neg hnil]
  rw[eh] at hcp
  simp only[ec] at hcp
  have gp:=tabK_par (a:=a) hb (.msl 2 0 (nd t a).kids.length (nd t a).kids.length 1)
  rw[hpar] at gp
  have g3:=tabK_get3 t a.toNat (.msl 2 0 (nd t a).kids.length (nd t a).kids.length 1) hla
  have hpeek: ∀(H:Heap) (K:AV→Heap→Prop),H[2]? =some (some (.row ((nd t a).kids.map AV.i)))→K (.i (-1)) H→Tri Tryz.prog 212 [.msl 2 0 (nd t a).kids.length (nd t a).kids.length 1,.i (-1)] H K:=fun H K hH hK=>
   Tri.peek hIx rfl [2] rfl (fun i x y hx hy=>by
    match i with
    |0=>simp at hx hy;subst hx hy;exact FV_kidsO hH
    |1=>simp at hx hy;subst hx hy;exact .same _ rfl
    |i+2=>simp at hx) hK
  have hb1:some (some (Blk.row (splice (splice (tabK t a.toNat (.msl 2 0 (nd t a).kids.length (nd t a).kids.length 1)) (0+a.toNat * 7+3) [.msl 4 0 ((nd t a).kids.length+1) ((nd t a).kids.length+1) 1]) (0+b.toNat * 7+2) [.i a])))=some (some (.row (tabP t a b (.msl 4 0 ((nd t a).kids.length+1) ((nd t a).kids.length+1) 1)))):=by
   unfold tabP;rw[tabK_set]
  repeat' ((conv=>whnf);(first
   |refine finD (F:=[1,4]) (FV_tup2 (FV_tabP ha hb hab (p:=1) (q:=4) hb1 rfl) (.same _ rfl))
   |refine Br_false (beqF (by omega:(-1:Int)≠b)) ?_
   |refine W_float (id:=13) 2 0 3 tt_ok mixed (by kernel_rfl) ?_
   |refine And.intro (fun _=>rfl) ?_
   |(refine Br_true (Nat.ble_eq_true_of_le (by rw[tabK_len];simp;omega)) ?_)
   |(refine Br_true (Nat.ble_eq_true_of_le (by rw[splice_length,tabK_len];simp;omega)) ?_)
   |refine Br_true (decide_eq_true (by omega)) ?_
   |refine Len_in (fun hlen=>?_)
   |refine Fn.use (hM) rfl rfl ?_
   |refine Fn.use (hw) rfl rfl ?_
   |refine hcp ?_
   |refine Cell_in _ gp ?_
   |refine Cell_in _ g3 ?_
   |refine Tri_of tt_ok Tryz.func211 rfl (by decide) Tryz.ntmps211 rfl rfl ?_
   |refine finQ ?_
   |refine W_draw 2 tt_ok mixed (by kernel_rfl) ?_
   |refine CallH_in _ (Nat.le_refl _) (fun K' hK'=>hpeek _ K' rfl hK') ?_
   |refine CallH_in _ (Nat.le_of_ble_eq_true rfl) (fun K' hK'=>ins_own (nd t a).kids b hnil hk1000 _ _ _ K' hK') ?_))
end Go.Eng
namespace Go.Eng
open Go Go.Proofs
def lev:Nat→PS→Hear→Option Ans
 |0=>fun _ _=>none
 |n+1=>callG (stepG (giveG (toG (fireG (lev n)))))
theorem lev_C: ∀n,CallC (lev n)
 |0=>by intro s h s' b1 b2 b3 hs;simp[lev] at hs
 |n+1=>page_call _ (page_step _ (page_give _ (page_to _ (page_fire _ (lev_C n)))))
def giveN (n:Nat):PS→Int→Option (PS×Int):=giveG (toG (fireG (lev n)))
theorem giveN_C (n:Nat):GiveC (giveN n):=page_give _ (page_to _ (page_fire _ (lev_C n)))
theorem page_Rows (s:PS) (hl:s.rows.length≤90000):Tri Tryz.prog 58 [.ptr 0 0] (pgI s) fun v H=>v=.d (.sl (rowsP s))∧H=pgI s:=by
 refine Tri_of (m:=3) tt_ok Tryz.func58 rfl (by decide) Tryz.ntmps58 (by rfl) rfl ?_
 have hrl:(rowsP s).length≤90000:=by simpa using hl
 by_cases h0:rowsP s=[]
 ·have e1:AccV 1 8 (rowsP s)=.nsl:=by rw[h0,AccV_nil]
  repeat' ((conv=>whnf);(first
   |refine Tri_of tt_ok Tryz.func89 rfl (by decide) Tryz.ntmps89 rfl rfl ?_
   |refine force_in ?_))
  rw[e1]
  repeat' ((conv=>whnf);(first
   |(refine finPI [] rfl rfl rfl rfl (by rw[h0];exact .nsl))
   |refine finQ ?_))
 ·have e1:AccV 1 8 (rowsP s)=.msl 1 0 (rowsP s).length (rowsP s).length 8:=AccV_cons h0
  have e2:AccB (rowsP s)=some (.row ((rowsP s).flatten.map .d)):=AccB_cons h0
  have hfv: ∀H:Heap,H[3]? =some (some (.row ((rowsP s).flatten.map .d)))→FV [0,1,2] [3] H (.msl 3 0 (rowsP s).length (rowsP s).length 8) (.d (.sl (rowsP s))):=fun H hH=>
   .frz 3 0 _ _ 8 ((rowsP s).flatten.map .d) (rowsP s) (by simp) (by unfold rowOf;rw[hH]) rfl cs8p (by have e:=flatten_len (rowsP s) cs8p;have e2:((rowsP s).flatten.map AV.d).length=(rowsP s).flatten.length:=List.length_map _;show 0+(rowsP s).length * 8≤_;omega) fun i x y hi hx hy=>by
    rw[Nat.zero_add,List.getElem?_map,hy] at hx
    simp at hx
    subst hx
    exact .same _ rfl
  repeat' ((conv=>whnf);(first
   |refine Tri_of tt_ok Tryz.func89 rfl (by decide) Tryz.ntmps89 rfl rfl ?_
   |refine force_in ?_))
  rw[e1]
  skip
  refine Ch_r ?_
  skip
  refine App_esl (rowsP s) rfl ?_ h0 cs8p (by omega) (Nat.le_of_ble_eq_true rfl) ?_
  ·have hfl:((rowsP s).flatten.map AV.d).length=(rowsP s).length * 8:=by rw[List.length_map,flatten_len (rowsP s) cs8p]
   refine(newCells_msl (cs:=(rowsP s).flatten.map .d) (congrArg some e2) (by rw[hfl];show 0+(rowsP s).length * 8≤(rowsP s).length * 8;omega)).trans ?_
   congr 1
   unfold sub
   rw[List.drop_zero]
   exact List.take_of_length_le (by rw[hfl];exact Nat.le_refl _)
  repeat' ((conv=>whnf);(first
   |refine finPI [3] rfl rfl rfl rfl (hfv _ rfl)
   |refine finQ ?_))
theorem op_make (s:PS) (d a b c:Int) (fl:Bool) (p:List Step) (hs:SmallT s.tree):Tri Tryz.prog 138 [.ptr 0 0,aggD (opC d a b c fl p)] (pgI s) fun v H=>
  v=.tup [.i (madeR s (makeR s.tree a b).1 (makeR s.tree a b).2.1 (makeR s.tree a b).2.2).2.1,.i (madeR s (makeR s.tree a b).1 (makeR s.tree a b).2.1 (makeR s.tree a b).2.2).2.2]∧H=pgO (madeR s (makeR s.tree a b).1 (makeR s.tree a b).2.1 (makeR s.tree a b).2.2).1:=by
 refine Tri_of (m:=3) tt_ok Tryz.func138 rfl (by decide) Tryz.ntmps138 (by rfl) rfl ?_
 have h1:=tree_Make s.tree a b hs
 generalize makeR s.tree a b=q at *
 have h2:=page_made s q.1 q.2.1 q.2.2
 have hr:(madeR s q.1 q.2.1 q.2.2).1.rows=s.rows:=by unfold madeR;split <;> (try split) <;> rfl
 generalize madeR s q.1 q.2.1 q.2.2=r at *
 have hA:AccB (rowsP s)=AccB (rowsP r.1):=by unfold rowsP;rw[hr]
 repeat' ((conv=>whnf);(first
  |refine finPO 1 [] (by decide) (by decide) rfl (congrArg some hA) rfl rfl (FV_tups ⟨.same _ rfl,.same _ rfl,trivial⟩)
  |refine W_draw (140+4) tt_ok mixed (by kernel_rfl) ?_
  |refine CallF_in h1 rfl rfl ?_
  |refine CallH_in [some (.row (pgC r.1 1 2)),AccB (rowsP s),some (.mp [] []),some (.row ((opC d a b c fl p).map .d))] (Nat.le_of_ble_eq_true rfl) (fun K' hK'=>Tri.pgS 0 1 2 h2 hr rfl rfl rfl (by decide) (by decide) (by decide) rfl rfl rfl hK') ?_))
theorem op_insert (s:PS) (d a b:Int) (fl:Bool) (p:List Step) (hs:SmallT s.tree) (ho:insOk s.tree a b=true) (hm:mayB (putKid s.tree a b)=true) (hs2:SmallT (putKid s.tree a b)):
  Tri Tryz.prog 144 [.ptr 0 0,aggD (opC d a b (-1) fl p)] (pgI s) fun v H=>v=.i 0∧H=pgO { s with tree:=putKid s.tree a b }:=by
 refine Tri_of (m:=3) tt_ok Tryz.func144 rfl (by decide) Tryz.ntmps144 (by rfl) rfl ?_
 have h1:=tree_Insert s.tree a b hs ho
 have h2:=page_turn s (putKid s.tree a b) 0 (fun _=>hm) (fun _=>hs2)
 have e:turnR s (putKid s.tree a b) 0=({ s with tree:=putKid s.tree a b },0):=rfl
 rw[e] at h2
 generalize putKid s.tree a b=t2 at *
 repeat' ((conv=>whnf);(first
  |refine finPO (s:={ s with tree:=t2 }) 1 [] (by decide) (by decide) rfl rfl rfl rfl (.same _ rfl)
  |refine W_draw (146+4) tt_ok mixed (by kernel_rfl) ?_
  |refine CallF_in h1 rfl rfl ?_
  |refine CallH_in [some (.row (pgC { s with tree:=t2 } 1 2)),AccB (rowsP s),some (.mp [] []),some (.row ((opC d a b (-1) fl p).map .d))] (Nat.le_of_ble_eq_true rfl) (fun K' hK'=>Tri.pgS 0 1 2 h2 rfl rfl rfl rfl (by decide) (by decide) (by decide) rfl rfl rfl hK') ?_))
theorem op_prog (s:PS) (d a b c:Int) (fl:Bool) (p:List Step) (hp:s.progs=[]):Tri Tryz.prog 153 [.ptr 0 0,aggD (opC d a b c fl p)] (pgI s) fun v H=>
  v=.tup [.i (progR s p).2.1,.i (progR s p).2.2]∧H=pgO (progR s p).1:=by
 refine Tri_of (m:=3) tt_ok Tryz.func153 rfl (by decide) Tryz.ntmps153 (by rfl) rfl ?_
 have h2:=page_program s p hp
 have hr:(progR s p).1.rows=s.rows:=by unfold progR;split <;> rfl
 generalize progR s p=r at *
 have hA:AccB (rowsP s)=AccB (rowsP r.1):=by unfold rowsP;rw[hr]
 repeat' ((conv=>whnf);(first
  |refine finPO 1 [] (by decide) (by decide) rfl (congrArg some hA) rfl rfl (FV_tups ⟨.same _ rfl,.same _ rfl,trivial⟩)
  |refine Tri.pgS 0 1 2 h2 hr rfl rfl rfl (by decide) (by decide) (by decide) rfl rfl rfl ?_))
theorem op_hear (s:PS) (d a b c:Int) (fl:Bool) (p:List Step) (hl:s.hears.length≤1000) (hp:s.progs.length≤64):Tri Tryz.prog 155 [.ptr 0 0,aggD (opC d a b c fl p)] (pgI s) fun v H=>
  v=.i (hearR s a b c fl).2∧H=pgO (hearR s a b c fl).1:=by
 refine Tri_of (m:=3) tt_ok Tryz.func155 rfl (by decide) Tryz.ntmps155 (by rfl) rfl ?_
 have h2:=page_hear s d a b c fl p hl hp
 have hr:(hearR s a b c fl).1.rows=s.rows:=by unfold hearR;split <;> (try split) <;> rfl
 generalize hearR s a b c fl=r at *
 have hA:AccB (rowsP s)=AccB (rowsP r.1):=by unfold rowsP;rw[hr]
 repeat' ((conv=>whnf);(first
  |refine finPO 1 [] (by decide) (by decide) rfl (congrArg some hA) rfl rfl (.same _ rfl)
  |refine Tri.pgS 0 1 2 h2 hr rfl rfl rfl (by decide) (by decide) (by decide) rfl rfl rfl ?_))
theorem op_give (n:Nat) (s s':PS) (d a b c e:Int) (fl:Bool) (p:List Step) (hg:giveN n s a=some (s',e)):Tri Tryz.prog 161 [.ptr 0 0,aggD (opC d a b c fl p)] (pgI s) fun v H=>v=.i e∧H=pgO s':=by
 refine Tri_of (m:=3) tt_ok Tryz.func161 rfl (by decide) Tryz.ntmps161 (by rfl) rfl ?_
 have h2:=giveN_C n _ _ _ _ hg
 repeat' ((conv=>whnf);(first
  |refine finPO 4 [] (by decide) (by decide) rfl rfl rfl rfl (.same _ rfl)
  |refine Tri.pg 0 1 2 4 rfl h2 rfl rfl rfl (by decide) (by decide) (by decide) rfl rfl rfl ?_))
end Go.Eng
